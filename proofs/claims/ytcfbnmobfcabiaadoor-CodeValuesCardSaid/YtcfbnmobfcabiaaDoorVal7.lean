/-
  Contracts of the functions that the law reaches: one: what is no list and no object. one: a list. one: an object. one. Build. reader.comp.
-/
import Derived.Test.YtcfbnmobfcabiaaDoorVal6
namespace Go.Proofs.YtcfbnmobfcabiaaDoor
open Go.RowKit
theorem and_one_i64 (x : Int) : bits BinOp.and IntKind.i64 x 1 = x % 2 := by
  have h : bits BinOp.and IntKind.i64 x 1 = IntKind.i64.wrap (((BitVec.ofInt 64 x &&& BitVec.ofInt 64 1).toNat : Nat) : Int) := rfl
  have e : (BitVec.ofInt 64 1).toNat = 1 := by decide
  rw [h, BitVec.toNat_and, e, Nat.and_one_is_mod, BitVec.toNat_ofInt, IntKind.wrap_i64]
  have e2 : ((2 ^ 64 : Nat) : Int) = 18446744073709551616 := by decide
  rw [e2]
  omega
set_option maxHeartbeats 4000000 in
set_option maxRecDepth 100000 in
theorem one_nil (w : World) (dd : Int) (a : Option Addr) (c : Nat) :
    Calls Tryd.prog 43 #[.slice a 0 c, .int .i64 dd] w (RawPost w (V.none, 0)) := by
  go_enter Tryd.func43, Tryd.ntmps43
  generalize hQ0 : bodyPost _ _ _ = Q0
  have HQ := Lib.hid hQ0
  clear hQ0
  go_wp2_with fail
  rw [← HQ.out]
  exact one_leave (c := vzero) (BC.start w #[.int .u8 0, .int .i64 0, .string { data := #[] }, .slice none 0 0, .slice none 0 0] _) ((Below.refl _ _).alloc (Nat.le_refl _) _) (isVal_none _ _) rfl rfl rfl
set_option maxHeartbeats 4000000 in
set_option maxRecDepth 100000 in
theorem one_0 (w : World) (dd : Int) (t : Tk) (r : List Tk) (a : Option Addr) (n c : Nat) (h : IsToks w w.heap.size (t :: r) a n c) (hk : t.k % 6 = 0) :
    Calls Tryd.prog 43 #[.slice a n c, .int .i64 dd] w (RawPost w (leafP t, 1)) := by
  obtain ⟨b, o, hp, rfl, hb, htk, hbd⟩ := h.get (k := 0) (by have := h.len; rw [this]; simp)
  have ht : TkAt w b o t := by simpa using htk
  replace hbd : t.Bnd := by simpa using hbd
  have c0 := ht.c0; have c1 := ht.c1; have c2 := ht.c2; have c3 := ht.c3
  have b2 := hbd.m0; have b3 := hbd.m1
  have hnp : 0 < n := by rw [h.len]; simp
  have hne : ((n : Int) == 0) = false := by simp; omega
  have hk2 : Int.tmod t.k 6 = 0 := by rw [Int.tmod_eq_emod_of_nonneg hbd.k0]; exact hk
  have HBD := Lib.hid hbd
  have hR : leafP t = V.none := by rw [leafP]; simp [hk]
  have HR := Lib.hid hR
  have hz := BC.start w #[.int .u8 0, .int .i64 0, .string { data := #[] }, .slice none 0 0, .slice none 0 0] 28
  have hb2 : Below w.heap.size w (w.alloc (.cells #[.int .u8 0, .int .i64 0, .string { data := #[] }, .slice none 0 0, .slice none 0 0] 28)) := (Below.refl _ _).alloc (Nat.le_refl _) _
  have HZ := Lib.hid hz
  have HB2 := Lib.hid hb2
  rw [hR]
  clear h ht htk hp hbd hk hR hz hb2
  go_enter Tryd.func43, Tryd.ntmps43
  generalize hQ0 : bodyPost _ _ _ = Q0
  have HQ := Lib.hid hQ0
  clear hQ0
  go_wp2_with fail
  rw [← HQ.out]
  have A := BC.start w #[.int .u8 0, .int .i64 0, .string { data := #[] }, .slice none 0 0, .slice none 0 0] 28
  have B1 : Below w.heap.size w (w.alloc (.cells #[.int .u8 0, .int .i64 0, .string { data := #[] }, .slice none 0 0, .slice none 0 0] 28)) := (Below.refl _ _).alloc (Nat.le_refl _) _
  exact one_leave (c := ⟨0, 0, .empty, none, 0, 0, none, 0, 0⟩) (A.keep ((Below.refl _ _).alloc (Nat.le_refl _) _) A.lt) (B1.alloc B1.size _) (isVal_none _ _) rfl rfl rfl
set_option maxHeartbeats 4000000 in
set_option maxRecDepth 100000 in
theorem one_1 (w : World) (dd : Int) (t : Tk) (r : List Tk) (a : Option Addr) (n c : Nat) (h : IsToks w w.heap.size (t :: r) a n c) (hk : t.k % 6 = 1) :
    Calls Tryd.prog 43 #[.slice a n c, .int .i64 dd] w (RawPost w (leafP t, 1)) := by
  obtain ⟨b, o, hp, rfl, hb, htk, hbd⟩ := h.get (k := 0) (by have := h.len; rw [this]; simp)
  have ht : TkAt w b o t := by simpa using htk
  replace hbd : t.Bnd := by simpa using hbd
  have c0 := ht.c0; have c1 := ht.c1; have c2 := ht.c2; have c3 := ht.c3
  have b2 := hbd.m0; have b3 := hbd.m1
  have hnp : 0 < n := by rw [h.len]; simp
  have hne : ((n : Int) == 0) = false := by simp; omega
  have hk2 : Int.tmod t.k 6 = 1 := by rw [Int.tmod_eq_emod_of_nonneg hbd.k0]; exact hk
  have HBD := Lib.hid hbd
  have hR : leafP t = V.mk 1 (t.n % 2) .empty [] [] := by rw [leafP]; simp [hk]
  have HR := Lib.hid hR
  have hz := BC.start w #[.int .u8 0, .int .i64 0, .string { data := #[] }, .slice none 0 0, .slice none 0 0] 28
  have hb2 : Below w.heap.size w (w.alloc (.cells #[.int .u8 0, .int .i64 0, .string { data := #[] }, .slice none 0 0, .slice none 0 0] 28)) := (Below.refl _ _).alloc (Nat.le_refl _) _
  have HZ := Lib.hid hz
  have HB2 := Lib.hid hb2
  rw [hR]
  clear h ht htk hp hbd hk hR hz hb2
  go_enter Tryd.func43, Tryd.ntmps43
  generalize hQ0 : bodyPost _ _ _ = Q0
  have HQ := Lib.hid hQ0
  clear hQ0
  go_wp2_with fail
  rw [and_one_i64]
  rw [← HQ.out]
  have A := BC.start w #[.int .u8 1, .int .i64 (t.n % 2), .string { data := #[] }, .slice none 0 0, .slice none 0 0] 28
  have B1 : Below w.heap.size w (w.alloc (.cells #[.int .u8 1, .int .i64 (t.n % 2), .string { data := #[] }, .slice none 0 0, .slice none 0 0] 28)) := (Below.refl _ _).alloc (Nat.le_refl _) _
  exact one_leave (c := ⟨1, t.n % 2, .empty, none, 0, 0, none, 0, 0⟩) (A.keep ((Below.refl _ _).alloc (Nat.le_refl _) _) A.lt) (B1.alloc B1.size _) (isVal_leaf _ _ _ _ _ (by omega) (by omega) (by omega) (by omega) (by decide)) rfl rfl rfl
set_option maxHeartbeats 4000000 in
set_option maxRecDepth 100000 in
theorem one_2 (w : World) (dd : Int) (t : Tk) (r : List Tk) (a : Option Addr) (n c : Nat) (h : IsToks w w.heap.size (t :: r) a n c) (hk : t.k % 6 = 2) :
    Calls Tryd.prog 43 #[.slice a n c, .int .i64 dd] w (RawPost w (leafP t, 1)) := by
  obtain ⟨b, o, hp, rfl, hb, htk, hbd⟩ := h.get (k := 0) (by have := h.len; rw [this]; simp)
  have ht : TkAt w b o t := by simpa using htk
  replace hbd : t.Bnd := by simpa using hbd
  have c0 := ht.c0; have c1 := ht.c1; have c2 := ht.c2; have c3 := ht.c3
  have b2 := hbd.m0; have b3 := hbd.m1
  have hnp : 0 < n := by rw [h.len]; simp
  have hne : ((n : Int) == 0) = false := by simp; omega
  have hk2 : Int.tmod t.k 6 = 2 := by rw [Int.tmod_eq_emod_of_nonneg hbd.k0]; exact hk
  have HBD := Lib.hid hbd
  have hR : leafP t = V.mk 2 t.n .empty [] [] := by rw [leafP]; simp [hk]
  have HR := Lib.hid hR
  have hz := BC.start w #[.int .u8 0, .int .i64 0, .string { data := #[] }, .slice none 0 0, .slice none 0 0] 28
  have hb2 : Below w.heap.size w (w.alloc (.cells #[.int .u8 0, .int .i64 0, .string { data := #[] }, .slice none 0 0, .slice none 0 0] 28)) := (Below.refl _ _).alloc (Nat.le_refl _) _
  have HZ := Lib.hid hz
  have HB2 := Lib.hid hb2
  rw [hR]
  clear h ht htk hp hbd hk hR hz hb2
  go_enter Tryd.func43, Tryd.ntmps43
  generalize hQ0 : bodyPost _ _ _ = Q0
  have HQ := Lib.hid hQ0
  clear hQ0
  go_wp2_with fail
  rw [← HQ.out]
  have A := BC.start w #[.int .u8 2, .int .i64 t.n, .string { data := #[] }, .slice none 0 0, .slice none 0 0] 28
  have B1 : Below w.heap.size w (w.alloc (.cells #[.int .u8 2, .int .i64 t.n, .string { data := #[] }, .slice none 0 0, .slice none 0 0] 28)) := (Below.refl _ _).alloc (Nat.le_refl _) _
  exact one_leave (c := ⟨2, t.n, .empty, none, 0, 0, none, 0, 0⟩) (A.keep ((Below.refl _ _).alloc (Nat.le_refl _) _) A.lt) (B1.alloc B1.size _) (isVal_leaf _ _ _ _ _ (by omega) (by omega) HBD.out.n0 HBD.out.n1 (by decide)) rfl rfl rfl
set_option maxHeartbeats 4000000 in
set_option maxRecDepth 100000 in
theorem one_3 (w : World) (dd : Int) (t : Tk) (r : List Tk) (a : Option Addr) (n c : Nat) (h : IsToks w w.heap.size (t :: r) a n c) (hk : t.k % 6 = 3) :
    Calls Tryd.prog 43 #[.slice a n c, .int .i64 dd] w (RawPost w (leafP t, 1)) := by
  obtain ⟨b, o, hp, rfl, hb, htk, hbd⟩ := h.get (k := 0) (by have := h.len; rw [this]; simp)
  have ht : TkAt w b o t := by simpa using htk
  replace hbd : t.Bnd := by simpa using hbd
  have c0 := ht.c0; have c1 := ht.c1; have c2 := ht.c2; have c3 := ht.c3
  have b2 := hbd.m0; have b3 := hbd.m1
  have hnp : 0 < n := by rw [h.len]; simp
  have hne : ((n : Int) == 0) = false := by simp; omega
  have hk2 : Int.tmod t.k 6 = 3 := by rw [Int.tmod_eq_emod_of_nonneg hbd.k0]; exact hk
  have HBD := Lib.hid hbd
  have hR : leafP t = V.mk 3 0 (plainS t.s) [] [] := by rw [leafP]; simp [hk]
  have HR := Lib.hid hR
  have hz := BC.start w #[.int .u8 0, .int .i64 0, .string { data := #[] }, .slice none 0 0, .slice none 0 0] 28
  have hb2 : Below w.heap.size w (w.alloc (.cells #[.int .u8 0, .int .i64 0, .string { data := #[] }, .slice none 0 0, .slice none 0 0] 28)) := (Below.refl _ _).alloc (Nat.le_refl _) _
  have HZ := Lib.hid hz
  have HB2 := Lib.hid hb2
  rw [hR]
  have HA := Lib.hid (hb2.alloc hb2.size (.cells #[.int .u8 t.k, .int .i64 t.n, .string t.s, .int .u8 t.m] 52))
  have HK := Lib.hid (hz.keep ((Below.refl _ _).alloc (Nat.le_refl _) (.cells #[.int .u8 t.k, .int .i64 t.n, .string t.s, .int .u8 t.m] 52)) hz.lt)
  clear h ht htk hp hbd hk hR hz hb2
  go_enter Tryd.func43, Tryd.ntmps43
  generalize hQ0 : bodyPost _ _ _ = Q0
  have HQ := Lib.hid hQ0
  clear hQ0
  go_wp2_with fail
  refine (plain_any _ t.s HBD.out.s1).mono ?_
  rintro e w3 ⟨rfl, hb3⟩
  have D := HK.out.keep hb3 (by simp; omega)
  have r0 := D.at_ 0 _ rfl; have r1 := D.at_ 1 _ rfl; have r2 := D.at_ 2 _ rfl; have r3 := D.at_ 3 _ rfl; have r4 := D.at_ 4 _ rfl
  have g0 := D.fr 0; have g1 := D.fr 1; have g2 := D.fr 2; have g3 := D.fr 3; have g4 := D.fr 4
  have zs3 : w.heap.size < w3.heap.size := D.lt
  have HD3 := Lib.hid D
  have HB3 := Lib.hid (HA.out.trans (hb3.mono (by simp; omega)))
  obtain ⟨ps, hps, hpz⟩ : ∃ ps, plainS t.s = ps ∧ ps.size ≤ 140737488355328 := ⟨_, rfl, Nat.le_trans (plainS_size _) (by omega)⟩
  have HPS := Lib.hid hpz
  rw [hps] at HQ ⊢
  clear D hb3 hps hpz
  go_wp2_with fail
  rw [← HQ.out]
  have s1 : RStep w3 (((((w3.setCell ⟨w.heap.size, 0, none⟩ (.int .u8 3)).setCell ⟨w.heap.size, 1, none⟩ (.int .i64 0)).setCell ⟨w.heap.size, 2, none⟩ (.string ps)).setCell ⟨w.heap.size, 3, none⟩ (.slice none 0 0)).setCell ⟨w.heap.size, 4, none⟩ (.slice none 0 0)) w.heap.size := (((RStep.self.trans RStep.self).trans RStep.self).trans RStep.self).trans RStep.self
  have hbc : BC (((((w3.setCell ⟨w.heap.size, 0, none⟩ (.int .u8 3)).setCell ⟨w.heap.size, 1, none⟩ (.int .i64 0)).setCell ⟨w.heap.size, 2, none⟩ (.string ps)).setCell ⟨w.heap.size, 3, none⟩ (.slice none 0 0)).setCell ⟨w.heap.size, 4, none⟩ (.slice none 0 0)) w.heap.size (vcells ⟨3, 0, ps, none, 0, 0, none, 0, 0⟩) := ((((HD3.out.set (i := 0) (x := .int .u8 3) (by simp)).set (i := 1) (x := .int .i64 0) (by simp)).set (i := 2) (x := .string ps) (by simp)).set (i := 3) (x := .slice none 0 0) (by simp)).set (i := 4) (x := .slice none 0 0) (by simp)
  exact one_leave (c := ⟨3, 0, ps, none, 0, 0, none, 0, 0⟩) hbc (HB3.out.trans (s1.below (by omega))) (isVal_leaf _ _ 3 0 ps (by omega) (by omega) (by omega) (by omega) HPS.out) rfl rfl rfl
end Go.Proofs.YtcfbnmobfcabiaaDoor
namespace Go.Proofs.YtcfbnmobfcabiaaDoor
open Go.RowKit
set_option maxHeartbeats 8000000 in
set_option maxRecDepth 100000 in
theorem one_list (w : World) (dd : Int) (hd0 : 0 ≤ dd) (hd : dd ≤ 5) (d : Nat) (t : Tk) (r : List Tk) (a : Option Addr) (n c : Nat) (h : IsToks w w.heap.size (t :: r) a n c) (IH : ∀ (W : World) (l : List Tk) (a : Option Addr) (n c : Nat), IsToks W W.heap.size l a n c → Calls Tryd.prog 43 #[.slice a n c, .int .i64 (dd + 1)] W (RawPost W (oneP d l))) (hk : t.k % 6 = 4) :
    Calls Tryd.prog 43 #[.slice a n c, .int .i64 dd] w (RawPost w (oneP (d + 1) (t :: r))) := by
  obtain ⟨i0, hi0, hz0, hz1, hz2⟩ := info_parts ginfoV
  have hw1 : IntKind.i64.wrap (dd + 1) = dd + 1 := IntWalk.i64_in _ (by omega)
  obtain ⟨b, o, hp, rfl, hb, htk, hbd⟩ := h.get (k := 0) (by have := h.len; rw [this]; simp)
  have ht : TkAt w b o t := by simpa using htk
  replace hbd : t.Bnd := by simpa using hbd
  have c0 := ht.c0; have c1 := ht.c1; have c2 := ht.c2; have c3 := ht.c3
  have b0 := hbd.k0; have b1 := hbd.k1; have b2 := hbd.m0; have b3 := hbd.m1
  have hlen := h.len
  have hcap := h.cap
  have hmax := h.max
  have hnp : 0 < n := by rw [hlen]; simp
  have hne : ((n : Int) == 0) = false := by simp; omega
  obtain ⟨K, hK⟩ : ∃ K : Nat, (t.m % 4).toNat = K := ⟨_, rfl⟩
  have hK1 : t.m % 4 = (K : Int) := by omega
  have hK2 : Int.tmod t.m 4 = (K : Int) := by rw [Int.tmod_eq_emod_of_nonneg b2]; exact hK1
  have hK3 : K ≤ 3 := by omega
  have hk2 : Int.tmod t.k 6 = 4 := by rw [Int.tmod_eq_emod_of_nonneg b0]; exact hk
  have HI := Lib.hid h
  have HQR := Lib.hid (QR.start2 w t ⟨4, 0, .empty, none, 0, 0, none, 0, 0⟩ 28 52 28)
  have HBD := Lib.hid hbd
  have IHH := Lib.hid IH
  have HLEN := Lib.hid hlen
  have HKK := Lib.hid hK
  have HK := Lib.hid hk
  clear h ht htk hp hbd IH hlen hK hk
  go_enter Tryd.func43, Tryd.ntmps43
  generalize hQ0 : bodyPost _ _ _ = Q0
  have HQ := Lib.hid hQ0
  clear hQ0
  go_wp2_with fail
  go_loopw [7, 9, 10, 11] (fun u i _ _ wr => ∃ (j : Nat) (a' : Option Addr) (m c' : Nat) (xs : List V) (cs : List VC) (un : Nat), j ≤ K ∧ u = .int .i64 un ∧ i = .int .u8 j ∧ BLL w wr d (t :: r) t j a' m c' xs cs un) (fun _ i _ _ _ => K - (intOf i).toNat)
  case atStart => exact ⟨0, none, 0, 0, [], [], 1, Nat.zero_le _, rfl, rfl, ⟨rfl, rfl, rfl, (HQR.out _ rfl).1, Row.nil _ _ _ _ _⟩⟩
  case round =>
    obtain ⟨j, a', m, c', xs, cs, un, hj, rfl, rfl, L⟩ := hrel
    have k0 := L.box.tok.at_ 0 _ rfl; have k3 := L.box.tok.at_ 3 _ rfl
    have v0 := L.box.val.at_ 0 _ rfl; have v1 := L.box.val.at_ 1 _ rfl; have v2 := L.box.val.at_ 2 _ rfl; have v3 := L.box.val.at_ 3 _ rfl; have v4 := L.box.val.at_ 4 _ rfl
    have p0 := L.box.val.fr 3
    have r0 := L.box.res.at_ 0 _ rfl; have r1 := L.box.res.at_ 1 _ rfl; have r2 := L.box.res.at_ 2 _ rfl; have r3 := L.box.res.at_ 3 _ rfl; have r4 := L.box.res.at_ 4 _ rfl
    have g0 := L.box.res.fr 0; have g1 := L.box.res.fr 1; have g2 := L.box.res.fr 2; have g3 := L.box.res.fr 3; have g4 := L.box.res.fr 4
    have zs2 := L.box.val.lt; have zs1 := L.box.tok.lt; have zs0 := L.box.res.lt
    obtain ⟨hu1, hu2, hol⟩ : 1 ≤ un ∧ un ≤ n ∧ xs.length = j := by
      have := bL_used (oneP_used d) (l := t :: r) (by simp) j
      rw [L.rd] at this
      exact ⟨this.1, by rw [HLEN.out]; exact this.2.1, this.2.2⟩
    by_cases hlt : j < K
    · have hz9 : c = un → n - un = 0 := by omega
      obtain ⟨⟨x, q⟩, hx⟩ : ∃ p, oneP d ((t :: r).drop un) = p := ⟨_, rfl⟩
      have hq2 : un + q ≤ n := by have := oneP_used d ((t :: r).drop un); rw [hx, List.length_drop] at this; have := HLEN.out; dsimp only at *; omega
      have HX := Lib.hid hx
      have HC : Hid (∀ W, Below w.heap.size w W → Calls Tryd.prog 43 #[if c = un then .slice (some ⟨b, o, none⟩) 0 0 else .slice (some ⟨b, o + un * 4, none⟩) (n - un) (c - un), .int .i64 (dd + 1)] W (RawPost W (x, q))) := by
        intro W hW
        have HIW := (HI.out.later_ hW).drop un hu2
        rw [← HX.out]
        by_cases hc : c = un
        · rw [if_pos hc]; exact IHH.out W _ _ _ _ (HIW.none_left (hz9 hc))
        · rw [if_neg hc]; rw [Option.map_some, add_at] at HIW; exact IHH.out W _ _ _ _ HIW
      have LL := Lib.hid L
      clear L hx
      by_cases hc : c = un
      · replace HC := HC.out
        simp only [if_pos hc] at HC
        replace HC := Lib.hid HC
        have hz := hz9 hc
        clear hz9
        subst hc
        go_wp2_with fail
        refine (HC.out _ LL.out.box.below).mono ?_
        rintro e w4 ⟨⟨cx, rfl, hI4⟩, hb4⟩
        have L := LL.out
        have B4 := L.box.next hb4
        have k0 := B4.tok.at_ 0 _ rfl; have k3 := B4.tok.at_ 3 _ rfl
        have v0 := B4.val.at_ 0 _ rfl; have v1 := B4.val.at_ 1 _ rfl; have v2 := B4.val.at_ 2 _ rfl; have v3 := B4.val.at_ 3 _ rfl; have v4 := B4.val.at_ 4 _ rfl
        have p0 := B4.val.fr 3
        have r0 := B4.res.at_ 0 _ rfl; have r1 := B4.res.at_ 1 _ rfl; have r2 := B4.res.at_ 2 _ rfl; have r3 := B4.res.at_ 3 _ rfl; have r4 := B4.res.at_ 4 _ rfl
        have g0 := B4.res.fr 0; have g1 := B4.res.fr 1; have g2 := B4.res.fr 2; have g3 := B4.res.fr 3; have g4 := B4.res.fr 4
        have zt2 := B4.val.lt; have zt1 := B4.tok.lt; have zt0 := B4.res.lt
        have hrow : RowV w4 (w.heap.size + 3) (.slice a' m c') xs cs := L.row.later (PV.closed xs cs) (.of_below 0 hb4) (by omega)
        have hne2 : (Value.slice a' m c').ownBlock ≠ some (w.heap.size + 2) := fun e => by have := (L.row.lt _ e).1; omega
        have ho4 := hrow.own
        rw [L.len] at ho4
        have hu3 : (c : Int) + q ≤ 9223372036854775807 := by omega
        have HI4 := Lib.hid hI4
        have HB4 := Lib.hid hb4
        have hnw : ∀ jj u, (vcells cx)[jj]? = some u → ((w4.alloc (.cells #[.int .u8 cx.k, .int .i64 cx.n, .string cx.s, .slice cx.la cx.ll cx.lc, .slice cx.oa cx.ol cx.oc] 28)).alloc (.cells #[.int .u8 cx.k, .int .i64 cx.n, .string cx.s, .slice cx.la cx.ll cx.lc, .slice cx.oa cx.ol cx.oc] 28)).cell? ((⟨w4.heap.size + 1, 0, none⟩ : Addr).add jj) = some u := by
          have := World.news_of_block (t := 28) (fr := (0, 0)) (heap_alloc_new (w4.alloc (.cells #[.int .u8 cx.k, .int .i64 cx.n, .string cx.s, .slice cx.la cx.ll cx.lc, .slice cx.oa cx.ol cx.oc] 28)) (.cells #[.int .u8 cx.k, .int .i64 cx.n, .string cx.s, .slice cx.la cx.ll cx.lc, .slice cx.oa cx.ol cx.oc] 28))
          intro jj u hu
          simpa using this jj u (by simpa [vcells] using hu)
        have HNW := Lib.hid hnw
        have HB44 := Lib.hid B4
        clear L B4 hrow hI4 hb4 hnw
        go_wp2_with (at_builtin; refine wpList_append_lies _ rfl (.tmp 71) (.tmp 73) 25 (by rfl) (w.heap.size + 3) 28 i0 _ 5 80 Tryd.underlying25 hi0 hz0 hz1 hz2 rfl (by omega) (.slice a' m c') j (cs.flatMap vcells) (by rfl) ((ho4.alloc _).alloc _) ⟨w4.heap.size + 1, 0, none⟩ 1 1 (vcells cx) (by rfl) (by rfl) HNW.out (by simp [vcells, Value.oneCell']) (by omega) (by unfold maxLen; omega) (by omega) (by simp; omega) (w4.heap.size + 1 + 1) (by simp) ?_; intro g cap w7 hown7 hgrow7 hat7 hlt7; have hc7 : w7.cell? ⟨w.heap.size + 2, 3, none⟩ = some (.slice a' m c') := (hgrow7.cell_far ⟨w.heap.size + 2, 3, none⟩ (by simp; omega) (Ne.symm hne2)).trans (keep_cell ((Below.refl _ _).alloc (by simp) _) (keep_cell ((Below.refl _ _).alloc (Nat.le_refl _) _) (HB44.out.val.at_ 3 _ rfl) zt2) zt2); have hf7 : w7.frozen? ⟨w.heap.size + 2, 3, none⟩ = false := (hgrow7.frozen_far ⟨w.heap.size + 2, 3, none⟩ (by simp; omega) (Ne.symm hne2)).trans ((((Below.refl _ _).alloc (by simp) _ : Below w4.heap.size (w4.alloc _) ((w4.alloc _).alloc _)).frozen (p := ⟨w.heap.size + 2, 3, none⟩) zt2).trans ((((Below.refl _ _).alloc (Nat.le_refl _) _ : Below w4.heap.size w4 (w4.alloc _)).frozen (p := ⟨w.heap.size + 2, 3, none⟩) zt2).trans (HB44.out.val.fr 3))))
        go_roundw
        case rel => exact ⟨j + 1, some ⟨g, 0, none⟩, j + 1, cap, xs ++ [x], cs ++ [cx], c + q, by omega, by go_num, by go_num, LL.out.round HX.out HB4.out HI4.out (((Below.refl _ _).alloc (Nat.le_refl _) _).alloc (by simp) _) hown7 hgrow7 (hat7.imp_right fun e => by omega)⟩
        case measure => simp [intOf]; omega
      · replace HC := HC.out
        simp only [if_neg hc] at HC
        replace HC := Lib.hid HC
        have huc : un < c := by omega
        clear hz9 hc
        go_wp2_with fail
        refine (HC.out _ LL.out.box.below).mono ?_
        rintro e w4 ⟨⟨cx, rfl, hI4⟩, hb4⟩
        have L := LL.out
        have B4 := L.box.next hb4
        have k0 := B4.tok.at_ 0 _ rfl; have k3 := B4.tok.at_ 3 _ rfl
        have v0 := B4.val.at_ 0 _ rfl; have v1 := B4.val.at_ 1 _ rfl; have v2 := B4.val.at_ 2 _ rfl; have v3 := B4.val.at_ 3 _ rfl; have v4 := B4.val.at_ 4 _ rfl
        have p0 := B4.val.fr 3
        have r0 := B4.res.at_ 0 _ rfl; have r1 := B4.res.at_ 1 _ rfl; have r2 := B4.res.at_ 2 _ rfl; have r3 := B4.res.at_ 3 _ rfl; have r4 := B4.res.at_ 4 _ rfl
        have g0 := B4.res.fr 0; have g1 := B4.res.fr 1; have g2 := B4.res.fr 2; have g3 := B4.res.fr 3; have g4 := B4.res.fr 4
        have zt2 := B4.val.lt; have zt1 := B4.tok.lt; have zt0 := B4.res.lt
        have hrow : RowV w4 (w.heap.size + 3) (.slice a' m c') xs cs := L.row.later (PV.closed xs cs) (.of_below 0 hb4) (by omega)
        have hne2 : (Value.slice a' m c').ownBlock ≠ some (w.heap.size + 2) := fun e => by have := (L.row.lt _ e).1; omega
        have ho4 := hrow.own
        rw [L.len] at ho4
        have hu3 : (un : Int) + q ≤ 9223372036854775807 := by omega
        have HI4 := Lib.hid hI4
        have HB4 := Lib.hid hb4
        have hnw : ∀ jj u, (vcells cx)[jj]? = some u → ((w4.alloc (.cells #[.int .u8 cx.k, .int .i64 cx.n, .string cx.s, .slice cx.la cx.ll cx.lc, .slice cx.oa cx.ol cx.oc] 28)).alloc (.cells #[.int .u8 cx.k, .int .i64 cx.n, .string cx.s, .slice cx.la cx.ll cx.lc, .slice cx.oa cx.ol cx.oc] 28)).cell? ((⟨w4.heap.size + 1, 0, none⟩ : Addr).add jj) = some u := by
          have := World.news_of_block (t := 28) (fr := (0, 0)) (heap_alloc_new (w4.alloc (.cells #[.int .u8 cx.k, .int .i64 cx.n, .string cx.s, .slice cx.la cx.ll cx.lc, .slice cx.oa cx.ol cx.oc] 28)) (.cells #[.int .u8 cx.k, .int .i64 cx.n, .string cx.s, .slice cx.la cx.ll cx.lc, .slice cx.oa cx.ol cx.oc] 28))
          intro jj u hu
          simpa using this jj u (by simpa [vcells] using hu)
        have HNW := Lib.hid hnw
        have HB44 := Lib.hid B4
        clear L B4 hrow hI4 hb4 hnw
        go_wp2_with (at_builtin; refine wpList_append_lies _ rfl (.tmp 71) (.tmp 73) 25 (by rfl) (w.heap.size + 3) 28 i0 _ 5 80 Tryd.underlying25 hi0 hz0 hz1 hz2 rfl (by omega) (.slice a' m c') j (cs.flatMap vcells) (by rfl) ((ho4.alloc _).alloc _) ⟨w4.heap.size + 1, 0, none⟩ 1 1 (vcells cx) (by rfl) (by rfl) HNW.out (by simp [vcells, Value.oneCell']) (by omega) (by unfold maxLen; omega) (by omega) (by simp; omega) (w4.heap.size + 1 + 1) (by simp) ?_; intro g cap w7 hown7 hgrow7 hat7 hlt7; have hc7 : w7.cell? ⟨w.heap.size + 2, 3, none⟩ = some (.slice a' m c') := (hgrow7.cell_far ⟨w.heap.size + 2, 3, none⟩ (by simp; omega) (Ne.symm hne2)).trans (keep_cell ((Below.refl _ _).alloc (by simp) _) (keep_cell ((Below.refl _ _).alloc (Nat.le_refl _) _) (HB44.out.val.at_ 3 _ rfl) zt2) zt2); have hf7 : w7.frozen? ⟨w.heap.size + 2, 3, none⟩ = false := (hgrow7.frozen_far ⟨w.heap.size + 2, 3, none⟩ (by simp; omega) (Ne.symm hne2)).trans ((((Below.refl _ _).alloc (by simp) _ : Below w4.heap.size (w4.alloc _) ((w4.alloc _).alloc _)).frozen (p := ⟨w.heap.size + 2, 3, none⟩) zt2).trans ((((Below.refl _ _).alloc (Nat.le_refl _) _ : Below w4.heap.size w4 (w4.alloc _)).frozen (p := ⟨w.heap.size + 2, 3, none⟩) zt2).trans (HB44.out.val.fr 3))))
        go_roundw
        case rel => exact ⟨j + 1, some ⟨g, 0, none⟩, j + 1, cap, xs ++ [x], cs ++ [cx], un + q, by omega, by go_num, by go_num, LL.out.round HX.out HB4.out HI4.out (((Below.refl _ _).alloc (Nat.le_refl _) _).alloc (by simp) _) hown7 hgrow7 (hat7.imp_right fun e => by omega)⟩
        case measure => simp [intOf]; omega

    · have hjn : j = K := by omega
      subst hjn
      have hR : oneP (d + 1) (t :: r) = (.mk 4 0 .empty xs [], un) := by
        rw [oneP, if_pos HK.out, HKK.out, L.rd]
      have hv := RowV.val L.row (lo := w.heap.size + 3) (by rw [L.len, L.cen]) (Nat.le_refl _) 4 (by omega) (by omega) (by rw [L.len]; omega)
      have HV := Lib.hid hv
      have HR := Lib.hid hR
      have LB := Lib.hid L.box
      clear L hv hR
      go_wp2_with fail
      have ST := LB.out.stored ⟨4, 0, .empty, a', m, c', none, 0, 0⟩
      rw [← HQ.out, HR.out]
      exact one_leave (c := ⟨4, 0, .empty, a', m, c', none, 0, 0⟩) ST.1 ST.2.1 ((isVal_far HV.out ST.2.2 (by omega)).sub (shows_step fun k hk _ => ⟨by omega, rfl⟩)) rfl rfl rfl

end Go.Proofs.YtcfbnmobfcabiaaDoor
namespace Go.Proofs.YtcfbnmobfcabiaaDoor
open Go.RowKit
set_option maxHeartbeats 8000000 in
set_option maxRecDepth 100000 in
theorem one_obj (w : World) (dd : Int) (hd0 : 0 ≤ dd) (hd : dd ≤ 5) (d : Nat) (t : Tk) (r : List Tk) (a : Option Addr) (n c : Nat) (h : IsToks w w.heap.size (t :: r) a n c) (IH : ∀ (W : World) (l : List Tk) (a : Option Addr) (n c : Nat), IsToks W W.heap.size l a n c → Calls Tryd.prog 43 #[.slice a n c, .int .i64 (dd + 1)] W (RawPost W (oneP d l))) (hk : t.k % 6 = 5) :
    Calls Tryd.prog 43 #[.slice a n c, .int .i64 dd] w (RawPost w (oneP (d + 1) (t :: r))) := by
  have hw1 : IntKind.i64.wrap (dd + 1) = dd + 1 := IntWalk.i64_in _ (by omega)
  obtain ⟨b, o, hp, rfl, hb, htk, hbd⟩ := h.get (k := 0) (by have := h.len; rw [this]; simp)
  have ht : TkAt w b o t := by simpa using htk
  replace hbd : t.Bnd := by simpa using hbd
  have c0 := ht.c0; have c1 := ht.c1; have c2 := ht.c2; have c3 := ht.c3
  have b0 := hbd.k0; have b1 := hbd.k1; have b2 := hbd.m0; have b3 := hbd.m1
  have hlen := h.len
  have hcap := h.cap
  have hmax := h.max
  have hnp : 0 < n := by rw [hlen]; simp
  have hne : ((n : Int) == 0) = false := by simp; omega
  obtain ⟨K, hK⟩ : ∃ K : Nat, (t.m % 4).toNat = K := ⟨_, rfl⟩
  have hK1 : t.m % 4 = (K : Int) := by omega
  have hK2 : Int.tmod t.m 4 = (K : Int) := by rw [Int.tmod_eq_emod_of_nonneg b2]; exact hK1
  have hK3 : K ≤ 3 := by omega
  have hk2 : Int.tmod t.k 6 = 5 := by rw [Int.tmod_eq_emod_of_nonneg b0]; exact hk
  have HI := Lib.hid h
  have HQR := Lib.hid (QR.start2 w t ⟨5, 0, .empty, none, 0, 0, none, 0, 0⟩ 28 52 28)
  have HBD := Lib.hid hbd
  have IHH := Lib.hid IH
  have HLEN := Lib.hid hlen
  have HKK := Lib.hid hK
  have HK := Lib.hid hk
  clear h ht htk hp hbd IH hlen hK hk
  go_enter Tryd.func43, Tryd.ntmps43
  generalize hQ0 : bodyPost _ _ _ = Q0
  have HQ := Lib.hid hQ0
  clear hQ0
  go_wp2_with fail
  go_loopw [7, 13, 14, 15, 16] (fun u i _ _ _ wr => ∃ (j : Nat) (a' : Option Addr) (m c' : Nat) (os : List (ByteArray × V)) (un : Nat), j ≤ K ∧ u = .int .i64 un ∧ i = .int .u8 j ∧ BLO w wr d (t :: r) t j a' m c' os un) (fun _ i _ _ _ _ => K - (intOf i).toNat)
  case atStart => exact ⟨0, none, 0, 0, [], 1, Nat.zero_le _, rfl, rfl, ⟨rfl, (HQR.out _ rfl).1, .inl ⟨rfl, rfl, rfl⟩, isFields_nil _ _⟩⟩
  case round =>
    obtain ⟨j, a', m, c', os, un, hj, rfl, rfl, L⟩ := hrel
    have k0 := L.box.tok.at_ 0 _ rfl; have k3 := L.box.tok.at_ 3 _ rfl
    have v0 := L.box.val.at_ 0 _ rfl; have v1 := L.box.val.at_ 1 _ rfl; have v2 := L.box.val.at_ 2 _ rfl; have v3 := L.box.val.at_ 3 _ rfl; have v4 := L.box.val.at_ 4 _ rfl
    have p0 := L.box.val.fr 4
    have r0 := L.box.res.at_ 0 _ rfl; have r1 := L.box.res.at_ 1 _ rfl; have r2 := L.box.res.at_ 2 _ rfl; have r3 := L.box.res.at_ 3 _ rfl; have r4 := L.box.res.at_ 4 _ rfl
    have g0 := L.box.res.fr 0; have g1 := L.box.res.fr 1; have g2 := L.box.res.fr 2; have g3 := L.box.res.fr 3; have g4 := L.box.res.fr 4
    have zs2 := L.box.val.lt; have zs1 := L.box.tok.lt; have zs0 := L.box.res.lt
    obtain ⟨hu1, hu2, hol⟩ : 1 ≤ un ∧ un ≤ n ∧ os.length ≤ j := by
      have := bO_used (oneP_used d) (l := t :: r) (by simp) j
      rw [L.rd] at this
      exact ⟨this.1, by rw [HLEN.out]; exact this.2.1, this.2.2⟩
    by_cases hlt : j < K
    · have hz9 : c = un → n - un = 0 := by omega
      obtain ⟨⟨x, q⟩, hx⟩ : ∃ p, oneP d ((t :: r).drop un) = p := ⟨_, rfl⟩
      have hq2 : un + q ≤ n := by have := oneP_used d ((t :: r).drop un); rw [hx, List.length_drop] at this; have := HLEN.out; dsimp only at *; omega
      have HX := Lib.hid hx
      have HC : Hid (∀ W, Below w.heap.size w W → Calls Tryd.prog 43 #[if c = un then .slice (some ⟨b, o, none⟩) 0 0 else .slice (some ⟨b, o + un * 4, none⟩) (n - un) (c - un), .int .i64 (dd + 1)] W (RawPost W (x, q))) := by
        intro W hW
        have HIW := (HI.out.later_ hW).drop un hu2
        rw [← HX.out]
        by_cases hc : c = un
        · rw [if_pos hc]; exact IHH.out W _ _ _ _ (HIW.none_left (hz9 hc))
        · rw [if_neg hc]; rw [Option.map_some, add_at] at HIW; exact IHH.out W _ _ _ _ HIW
      have LL := Lib.hid L
      clear L hx
      obtain ⟨key, hkey, hks⟩ : ∃ key, keyP (t :: r) un = key ∧ key.size ≤ 40 := ⟨_, rfl, keyP_size _ _⟩
      have HKEY := Lib.hid hkey
      by_cases hul : un < n
      · obtain ⟨b2, o2, hp2, e2, hb2, htk2, hbd2⟩ := (HI.out.keep LL.out.box.below).get hul
        injection e2 with e2; injection e2 with e2 e3; subst e2 e3
        have hk4 : plainS ((t :: r)[un]'hp2).s = key := by rw [← hkey, keyP, List.getElem?_eq_getElem hp2]
        obtain ⟨ks, hks2⟩ : ∃ ks, ((t :: r)[un]'hp2).s = ks := ⟨_, rfl⟩
        have d2 := htk2.c2
        have hsz2 := hbd2.s1
        rw [hks2] at d2 hsz2 hk4
        have HPL := Lib.hid (plain_any wr ks hsz2)
        rw [hk4] at HPL
        have hne8 : c ≠ un := by omega
        replace HC := HC.out
        simp only [if_neg hne8] at HC
        replace HC := Lib.hid HC
        have huc : un < c := by omega
        have hbw : b < wr.heap.size := World.block_lt_of_cell? wr _ d2
        clear hz9 hne8 htk2 hbd2 hk4 hks2 hkey
        go_wp2_with fail
        refine (HPL.out).mono ?_
        rintro e w3 ⟨rfl, hb3⟩
        have B3 := LL.out.box.next hb3
        have HB3 := Lib.hid hb3
        have HBL3 := Lib.hid B3.below
        clear B3 hb3
        go_wp2_with fail
        refine (HC.out _ HBL3.out).mono ?_
        rintro e w4 ⟨⟨cx, rfl, hI4⟩, hb4⟩
        have L := LL.out
        have hb34 : Below wr.heap.size wr w4 := HB3.out.trans (hb4.mono HB3.out.size)
        have B4 := L.box.next hb34
        have k0 := B4.tok.at_ 0 _ rfl; have k3 := B4.tok.at_ 3 _ rfl
        have v0 := B4.val.at_ 0 _ rfl; have v1 := B4.val.at_ 1 _ rfl; have v2 := B4.val.at_ 2 _ rfl; have v3 := B4.val.at_ 3 _ rfl; have v4 := B4.val.at_ 4 _ rfl
        have p0 := B4.val.fr 4
        have r0 := B4.res.at_ 0 _ rfl; have r1 := B4.res.at_ 1 _ rfl; have r2 := B4.res.at_ 2 _ rfl; have r3 := B4.res.at_ 3 _ rfl; have r4 := B4.res.at_ 4 _ rfl
        have g0 := B4.res.fr 0; have g1 := B4.res.fr 1; have g2 := B4.res.fr 2; have g3 := B4.res.fr 3; have g4 := B4.res.fr 4
        have zt2 := B4.val.lt; have zt1 := B4.tok.lt; have zt0 := B4.res.lt
        have hs3 := HB3.out.size
        have HW := Lib.hid (with_any (w4.alloc (.cells #[.int .u8 cx.k, .int .i64 cx.n, .string cx.s, .slice cx.la cx.ll cx.lc, .slice cx.oa cx.ol cx.oc] 28)) (w.heap.size + 3) (by simp; omega) os a' m c' (L.fld.behind (hb34.alloc hb34.size _)) L.neat key (by omega) x cx.k cx.n cx.s cx.la cx.ll cx.lc cx.oa cx.ol cx.oc ((hI4.sub (shows_step fun k hk hl => ⟨by omega, ((Below.refl _ _).alloc (Nat.le_refl _) _ : Below w4.heap.size w4 (w4.alloc (.cells #[.int .u8 cx.k, .int .i64 cx.n, .string cx.s, .slice cx.la cx.ll cx.lc, .slice cx.oa cx.ol cx.oc] 28))).block k hl⟩)).more (by simp)) (by rw [L.fld.len]; omega))
        have HB5 := Lib.hid (hb34.alloc hb34.size (.cells #[.int .u8 cx.k, .int .i64 cx.n, .string cx.s, .slice cx.la cx.ll cx.lc, .slice cx.oa cx.ol cx.oc] 28))
        have HB4 := Lib.hid B4
        have hu3 : (un : Int) + q ≤ 9223372036854775807 := by omega
        clear L B4 hI4 hb4 hb34
        go_wp2_with fail
        refine (HW.out).mono ?_
        rintro e w6 ⟨⟨a2, n2, c2, rfl, hf6, hne6⟩, hb6⟩
        have B6 := (HB4.out.next ((Below.refl _ _).alloc (Nat.le_refl _) (.cells #[.int .u8 cx.k, .int .i64 cx.n, .string cx.s, .slice cx.la cx.ll cx.lc, .slice cx.oa cx.ol cx.oc] 28))).next hb6
        have v4 := B6.val.at_ 4 _ rfl; have p0 := B6.val.fr 4; have zu2 := B6.val.lt
        have HF6 := Lib.hid hf6; have HN6 := Lib.hid hne6; have HB6 := Lib.hid hb6
        clear B6 hf6 hne6 hb6
        go_wp2_with fail
        go_roundw
        case rel => exact ⟨j + 1, a2, n2, c2, withF os key x, un + q, by omega, by go_num, by go_num, LL.out.round HX.out HKEY.out HB5.out HB6.out HF6.out HN6.out⟩
        case measure => simp [intOf]; omega
      · have hk4 : key = .empty := by rw [← hkey, keyP, List.getElem?_eq_none (by rw [← HLEN.out]; omega)]
        have hk5 : key = ({ data := #[] } : ByteArray) := hk4
        have HB3 := Lib.hid (Below.refl wr.heap.size wr)
        by_cases hc : c = un
        · replace HC := HC.out
          simp only [if_pos hc] at HC
          replace HC := Lib.hid HC
          have hz := hz9 hc
          clear hz9
          subst hc
          subst hk5
          clear hk4 hkey
          go_wp2_with fail
          refine (HC.out _ LL.out.box.below).mono ?_
          rintro e w4 ⟨⟨cx, rfl, hI4⟩, hb4⟩
          have L := LL.out
          have hb34 : Below wr.heap.size wr w4 := HB3.out.trans (hb4.mono HB3.out.size)
          have B4 := L.box.next hb34
          have k0 := B4.tok.at_ 0 _ rfl; have k3 := B4.tok.at_ 3 _ rfl
          have v0 := B4.val.at_ 0 _ rfl; have v1 := B4.val.at_ 1 _ rfl; have v2 := B4.val.at_ 2 _ rfl; have v3 := B4.val.at_ 3 _ rfl; have v4 := B4.val.at_ 4 _ rfl
          have p0 := B4.val.fr 4
          have r0 := B4.res.at_ 0 _ rfl; have r1 := B4.res.at_ 1 _ rfl; have r2 := B4.res.at_ 2 _ rfl; have r3 := B4.res.at_ 3 _ rfl; have r4 := B4.res.at_ 4 _ rfl
          have g0 := B4.res.fr 0; have g1 := B4.res.fr 1; have g2 := B4.res.fr 2; have g3 := B4.res.fr 3; have g4 := B4.res.fr 4
          have zt2 := B4.val.lt; have zt1 := B4.tok.lt; have zt0 := B4.res.lt
          have hs3 := HB3.out.size
          have HW := Lib.hid (with_any (w4.alloc (.cells #[.int .u8 cx.k, .int .i64 cx.n, .string cx.s, .slice cx.la cx.ll cx.lc, .slice cx.oa cx.ol cx.oc] 28)) (w.heap.size + 3) (by simp; omega) os a' m c' (L.fld.behind (hb34.alloc hb34.size _)) L.neat { data := #[] } (by omega) x cx.k cx.n cx.s cx.la cx.ll cx.lc cx.oa cx.ol cx.oc ((hI4.sub (shows_step fun k hk hl => ⟨by omega, ((Below.refl _ _).alloc (Nat.le_refl _) _ : Below w4.heap.size w4 (w4.alloc (.cells #[.int .u8 cx.k, .int .i64 cx.n, .string cx.s, .slice cx.la cx.ll cx.lc, .slice cx.oa cx.ol cx.oc] 28))).block k hl⟩)).more (by simp)) (by rw [L.fld.len]; omega))
          have HB5 := Lib.hid (hb34.alloc hb34.size (.cells #[.int .u8 cx.k, .int .i64 cx.n, .string cx.s, .slice cx.la cx.ll cx.lc, .slice cx.oa cx.ol cx.oc] 28))
          have HB4 := Lib.hid B4
          have hu3 : (c : Int) + q ≤ 9223372036854775807 := by omega
          clear L B4 hI4 hb4 hb34
          go_wp2_with fail
          refine (HW.out).mono ?_
          rintro e w6 ⟨⟨a2, n2, c2, rfl, hf6, hne6⟩, hb6⟩
          have B6 := (HB4.out.next ((Below.refl _ _).alloc (Nat.le_refl _) (.cells #[.int .u8 cx.k, .int .i64 cx.n, .string cx.s, .slice cx.la cx.ll cx.lc, .slice cx.oa cx.ol cx.oc] 28))).next hb6
          have v4 := B6.val.at_ 4 _ rfl; have p0 := B6.val.fr 4; have zu2 := B6.val.lt
          have HF6 := Lib.hid hf6; have HN6 := Lib.hid hne6; have HB6 := Lib.hid hb6
          clear B6 hf6 hne6 hb6
          go_wp2_with fail
          go_roundw
          case rel => exact ⟨j + 1, a2, n2, c2, withF os { data := #[] } x, c + q, by omega, by go_num, by go_num, LL.out.round HX.out HKEY.out HB5.out HB6.out HF6.out HN6.out⟩
          case measure => simp [intOf]; omega
        · replace HC := HC.out
          simp only [if_neg hc] at HC
          replace HC := Lib.hid HC
          have huc : un < c := by omega
          clear hz9 hc
          subst hk5
          clear hk4 hkey
          go_wp2_with fail
          refine (HC.out _ LL.out.box.below).mono ?_
          rintro e w4 ⟨⟨cx, rfl, hI4⟩, hb4⟩
          have L := LL.out
          have hb34 : Below wr.heap.size wr w4 := HB3.out.trans (hb4.mono HB3.out.size)
          have B4 := L.box.next hb34
          have k0 := B4.tok.at_ 0 _ rfl; have k3 := B4.tok.at_ 3 _ rfl
          have v0 := B4.val.at_ 0 _ rfl; have v1 := B4.val.at_ 1 _ rfl; have v2 := B4.val.at_ 2 _ rfl; have v3 := B4.val.at_ 3 _ rfl; have v4 := B4.val.at_ 4 _ rfl
          have p0 := B4.val.fr 4
          have r0 := B4.res.at_ 0 _ rfl; have r1 := B4.res.at_ 1 _ rfl; have r2 := B4.res.at_ 2 _ rfl; have r3 := B4.res.at_ 3 _ rfl; have r4 := B4.res.at_ 4 _ rfl
          have g0 := B4.res.fr 0; have g1 := B4.res.fr 1; have g2 := B4.res.fr 2; have g3 := B4.res.fr 3; have g4 := B4.res.fr 4
          have zt2 := B4.val.lt; have zt1 := B4.tok.lt; have zt0 := B4.res.lt
          have hs3 := HB3.out.size
          have HW := Lib.hid (with_any (w4.alloc (.cells #[.int .u8 cx.k, .int .i64 cx.n, .string cx.s, .slice cx.la cx.ll cx.lc, .slice cx.oa cx.ol cx.oc] 28)) (w.heap.size + 3) (by simp; omega) os a' m c' (L.fld.behind (hb34.alloc hb34.size _)) L.neat { data := #[] } (by omega) x cx.k cx.n cx.s cx.la cx.ll cx.lc cx.oa cx.ol cx.oc ((hI4.sub (shows_step fun k hk hl => ⟨by omega, ((Below.refl _ _).alloc (Nat.le_refl _) _ : Below w4.heap.size w4 (w4.alloc (.cells #[.int .u8 cx.k, .int .i64 cx.n, .string cx.s, .slice cx.la cx.ll cx.lc, .slice cx.oa cx.ol cx.oc] 28))).block k hl⟩)).more (by simp)) (by rw [L.fld.len]; omega))
          have HB5 := Lib.hid (hb34.alloc hb34.size (.cells #[.int .u8 cx.k, .int .i64 cx.n, .string cx.s, .slice cx.la cx.ll cx.lc, .slice cx.oa cx.ol cx.oc] 28))
          have HB4 := Lib.hid B4
          have hu3 : (un : Int) + q ≤ 9223372036854775807 := by omega
          clear L B4 hI4 hb4 hb34
          go_wp2_with fail
          refine (HW.out).mono ?_
          rintro e w6 ⟨⟨a2, n2, c2, rfl, hf6, hne6⟩, hb6⟩
          have B6 := (HB4.out.next ((Below.refl _ _).alloc (Nat.le_refl _) (.cells #[.int .u8 cx.k, .int .i64 cx.n, .string cx.s, .slice cx.la cx.ll cx.lc, .slice cx.oa cx.ol cx.oc] 28))).next hb6
          have v4 := B6.val.at_ 4 _ rfl; have p0 := B6.val.fr 4; have zu2 := B6.val.lt
          have HF6 := Lib.hid hf6; have HN6 := Lib.hid hne6; have HB6 := Lib.hid hb6
          clear B6 hf6 hne6 hb6
          go_wp2_with fail
          go_roundw
          case rel => exact ⟨j + 1, a2, n2, c2, withF os { data := #[] } x, un + q, by omega, by go_num, by go_num, LL.out.round HX.out HKEY.out HB5.out HB6.out HF6.out HN6.out⟩
          case measure => simp [intOf]; omega

    · have hjn : j = K := by omega
      subst hjn
      have hR : oneP (d + 1) (t :: r) = (.mk 5 0 .empty [] os, un) := by
        rw [oneP, if_neg (by rw [HK.out]; decide), if_pos HK.out, HKK.out, L.rd]
      have hv := isVal_of_fields L.fld 5 (by omega) (by omega)
      have HV := Lib.hid hv
      have HR := Lib.hid hR
      have LB := Lib.hid L.box
      clear L hv hR
      go_wp2_with fail
      have ST := LB.out.stored ⟨5, 0, .empty, none, 0, 0, a', m, c'⟩
      rw [← HQ.out, HR.out]
      exact one_leave (c := ⟨5, 0, .empty, none, 0, 0, a', m, c'⟩) ST.1 ST.2.1 ((isVal_far HV.out ST.2.2 (by omega)).sub (shows_step fun k hk _ => ⟨by omega, rfl⟩)) rfl rfl rfl

end Go.Proofs.YtcfbnmobfcabiaaDoor
namespace Go.Proofs.YtcfbnmobfcabiaaDoor
open Go.RowKit
set_option maxHeartbeats 4000000 in
set_option maxRecDepth 100000 in
theorem one_end4 (w : World) (t : Tk) (r : List Tk) (a : Option Addr) (n c : Nat) (h : IsToks w w.heap.size (t :: r) a n c) (hk : t.k % 6 = 4) :
    Calls Tryd.prog 43 #[.slice a n c, .int .i64 6] w (RawPost w (leafP t, 1)) := by
  obtain ⟨b, o, hp, rfl, hb, htk, hbd⟩ := h.get (k := 0) (by have := h.len; rw [this]; simp)
  have ht : TkAt w b o t := by simpa using htk
  replace hbd : t.Bnd := by simpa using hbd
  have c0 := ht.c0; have c1 := ht.c1; have c2 := ht.c2; have c3 := ht.c3
  have b2 := hbd.m0; have b3 := hbd.m1
  have hnp : 0 < n := by rw [h.len]; simp
  have hne : ((n : Int) == 0) = false := by simp; omega
  obtain ⟨K, hK⟩ : ∃ K : Nat, (t.m % 4).toNat = K := ⟨_, rfl⟩
  have hK2 : Int.tmod t.m 4 = (K : Int) := by rw [Int.tmod_eq_emod_of_nonneg b2]; omega
  have hk2 : Int.tmod t.k 6 = 4 := by rw [Int.tmod_eq_emod_of_nonneg hbd.k0]; exact hk
  have HQR := Lib.hid (QR.start2 w t ⟨4, 0, .empty, none, 0, 0, none, 0, 0⟩ 28 52 28)
  have hR : leafP t = .mk 4 0 .empty [] [] := by rw [leafP]; simp [hk]
  rw [hR]
  clear h ht htk hp hbd hK hk hR
  go_enter Tryd.func43, Tryd.ntmps43
  generalize hQ0 : bodyPost _ _ _ = Q0
  have HQ := Lib.hid hQ0
  clear hQ0
  go_wp2_with fail
  go_loopw [7, 9, 10, 11] (fun u i _ _ wr => u = .int .i64 1 ∧ i = .int .u8 0 ∧ QR w wr t ⟨4, 0, .empty, none, 0, 0, none, 0, 0⟩) (fun _ _ _ _ _ => 0)
  case atStart => exact ⟨rfl, rfl, (HQR.out _ rfl).1⟩
  case round =>
    obtain ⟨rfl, rfl, L⟩ := hrel
    have k0 := L.tok.at_ 0 _ rfl; have k3 := L.tok.at_ 3 _ rfl
    have v0 := L.val.at_ 0 _ rfl; have v1 := L.val.at_ 1 _ rfl; have v2 := L.val.at_ 2 _ rfl; have v3 := L.val.at_ 3 _ rfl; have v4 := L.val.at_ 4 _ rfl
    have r0 := L.res.at_ 0 _ rfl; have r1 := L.res.at_ 1 _ rfl; have r2 := L.res.at_ 2 _ rfl; have r3 := L.res.at_ 3 _ rfl; have r4 := L.res.at_ 4 _ rfl
    have g0 := L.res.fr 0; have g1 := L.res.fr 1; have g2 := L.res.fr 2; have g3 := L.res.fr 3; have g4 := L.res.fr 4
    have zs2 := L.val.lt; have zs1 := L.tok.lt; have zs0 := L.res.lt
    have LB := Lib.hid L
    clear L
    by_cases hK0 : 0 < K
    all_goals
      go_wp2_with fail
      have ST := LB.out.stored ⟨4, 0, .empty, none, 0, 0, none, 0, 0⟩
      rw [← HQ.out]
      exact one_leave (c := ⟨4, 0, .empty, none, 0, 0, none, 0, 0⟩) ST.1 ST.2.1 (isVal_leaf _ _ 4 0 .empty (by omega) (by omega) (by omega) (by omega) (by decide)) rfl rfl rfl
set_option maxHeartbeats 4000000 in
set_option maxRecDepth 100000 in
theorem one_end5 (w : World) (t : Tk) (r : List Tk) (a : Option Addr) (n c : Nat) (h : IsToks w w.heap.size (t :: r) a n c) (hk : t.k % 6 = 5) :
    Calls Tryd.prog 43 #[.slice a n c, .int .i64 6] w (RawPost w (leafP t, 1)) := by
  obtain ⟨b, o, hp, rfl, hb, htk, hbd⟩ := h.get (k := 0) (by have := h.len; rw [this]; simp)
  have ht : TkAt w b o t := by simpa using htk
  replace hbd : t.Bnd := by simpa using hbd
  have c0 := ht.c0; have c1 := ht.c1; have c2 := ht.c2; have c3 := ht.c3
  have b2 := hbd.m0; have b3 := hbd.m1
  have hnp : 0 < n := by rw [h.len]; simp
  have hne : ((n : Int) == 0) = false := by simp; omega
  obtain ⟨K, hK⟩ : ∃ K : Nat, (t.m % 4).toNat = K := ⟨_, rfl⟩
  have hK2 : Int.tmod t.m 4 = (K : Int) := by rw [Int.tmod_eq_emod_of_nonneg b2]; omega
  have hk2 : Int.tmod t.k 6 = 5 := by rw [Int.tmod_eq_emod_of_nonneg hbd.k0]; exact hk
  have HQR := Lib.hid (QR.start2 w t ⟨5, 0, .empty, none, 0, 0, none, 0, 0⟩ 28 52 28)
  have hR : leafP t = .mk 5 0 .empty [] [] := by rw [leafP]; simp [hk]
  rw [hR]
  clear h ht htk hp hbd hK hk hR
  go_enter Tryd.func43, Tryd.ntmps43
  generalize hQ0 : bodyPost _ _ _ = Q0
  have HQ := Lib.hid hQ0
  clear hQ0
  go_wp2_with fail
  go_loopw [7, 13, 14, 15, 16] (fun u i _ _ _ wr => u = .int .i64 1 ∧ i = .int .u8 0 ∧ QR w wr t ⟨5, 0, .empty, none, 0, 0, none, 0, 0⟩) (fun _ _ _ _ _ _ => 0)
  case atStart => exact ⟨rfl, rfl, (HQR.out _ rfl).1⟩
  case round =>
    obtain ⟨rfl, rfl, L⟩ := hrel
    have k0 := L.tok.at_ 0 _ rfl; have k3 := L.tok.at_ 3 _ rfl
    have v0 := L.val.at_ 0 _ rfl; have v1 := L.val.at_ 1 _ rfl; have v2 := L.val.at_ 2 _ rfl; have v3 := L.val.at_ 3 _ rfl; have v4 := L.val.at_ 4 _ rfl
    have r0 := L.res.at_ 0 _ rfl; have r1 := L.res.at_ 1 _ rfl; have r2 := L.res.at_ 2 _ rfl; have r3 := L.res.at_ 3 _ rfl; have r4 := L.res.at_ 4 _ rfl
    have g0 := L.res.fr 0; have g1 := L.res.fr 1; have g2 := L.res.fr 2; have g3 := L.res.fr 3; have g4 := L.res.fr 4
    have zs2 := L.val.lt; have zs1 := L.tok.lt; have zs0 := L.res.lt
    have LB := Lib.hid L
    clear L
    by_cases hK0 : 0 < K
    all_goals
      go_wp2_with fail
      have ST := LB.out.stored ⟨5, 0, .empty, none, 0, 0, none, 0, 0⟩
      rw [← HQ.out]
      exact one_leave (c := ⟨5, 0, .empty, none, 0, 0, none, 0, 0⟩) ST.1 ST.2.1 (isVal_leaf _ _ 5 0 .empty (by omega) (by omega) (by omega) (by omega) (by decide)) rfl rfl rfl
theorem kinds6 (k : Int) : k % 6 = 0 ∨ k % 6 = 1 ∨ k % 6 = 2 ∨ k % 6 = 3 ∨ k % 6 = 4 ∨ k % 6 = 5 := by omega
theorem one_low (w : World) (dd : Int) (t : Tk) (r : List Tk) (a : Option Addr) (n c : Nat) (h : IsToks w w.heap.size (t :: r) a n c) (h4 : ¬ t.k % 6 = 4) (h5 : ¬ t.k % 6 = 5) :
    Calls Tryd.prog 43 #[.slice a n c, .int .i64 dd] w (RawPost w (leafP t, 1)) := by
  rcases kinds6 t.k with hk | hk | hk | hk | hk | hk
  · exact one_0 w dd t r a n c h hk
  · exact one_1 w dd t r a n c h hk
  · exact one_2 w dd t r a n c h hk
  · exact one_3 w dd t r a n c h hk
  · exact absurd hk h4
  · exact absurd hk h5
theorem one_any (d : Nat) : ∀ (dd : Int), 0 ≤ dd → dd + d = 6 → ∀ (w : World) (l : List Tk) (a : Option Addr) (n c : Nat), IsToks w w.heap.size l a n c →
    Calls Tryd.prog 43 #[.slice a n c, .int .i64 dd] w (RawPost w (oneP d l)) := by
  induction d with
  | zero =>
    intro dd _ hd w l a n c h
    cases l with
    | nil => obtain rfl : n = 0 := h.len; exact one_nil w dd a c
    | cons t r =>
      obtain rfl : dd = 6 := by omega
      by_cases h4 : t.k % 6 = 4
      · exact one_end4 w t r a n c h h4
      · by_cases h5 : t.k % 6 = 5
        · exact one_end5 w t r a n c h h5
        · exact one_low w 6 t r a n c h h4 h5
  | succ d ih =>
    intro dd hd0 hd w l a n c h
    cases l with
    | nil => obtain rfl : n = 0 := h.len; exact one_nil w dd a c
    | cons t r =>
      have IH := fun W l a n c h => ih (dd + 1) (by omega) (by omega) W l a n c h
      by_cases h4 : t.k % 6 = 4
      · exact one_list w dd hd0 (by omega) d t r a n c h IH h4
      · by_cases h5 : t.k % 6 = 5
        · exact one_obj w dd hd0 (by omega) d t r a n c h IH h5
        · rw [oneP, if_neg h4, if_neg h5]; exact one_low w dd t r a n c h h4 h5
end Go.Proofs.YtcfbnmobfcabiaaDoor
namespace Go.Proofs.YtcfbnmobfcabiaaDoor
open Go.RowKit
theorem results_build {tmps : Array Value} {W : World} {b : Nat} {c : VC} (ht : tmps[2]? = some (.pointer (some ⟨b, 0, none⟩))) (h : BC W b (vcells c)) :
    (results Tryd.f19 tmps).run Tryd.prog W = .ok (.agg #[.int .u8 c.k, .int .i64 c.n, .string c.s, .slice c.la c.ll c.lc, .slice c.oa c.ol c.oc]) W := by
  obtain ⟨r0, r1, r2, r3, r4⟩ := (⟨h.at_ 0 _ rfl, h.at_ 1 _ rfl, h.at_ 2 _ rfl, h.at_ 3 _ rfl, h.at_ 4 _ rfl⟩ : W.cell? ⟨b, 0, none⟩ = some (.int .u8 c.k) ∧ W.cell? ⟨b, 1, none⟩ = some (.int .i64 c.n) ∧ W.cell? ⟨b, 2, none⟩ = some (.string c.s) ∧ W.cell? ⟨b, 3, none⟩ = some (.slice c.la c.ll c.lc) ∧ W.cell? ⟨b, 4, none⟩ = some (.slice c.oa c.ol c.oc))
  simp [results, Tryd.results19, go_sem, ht, r0, r1, r2, r3, r4]
set_option maxHeartbeats 4000000 in
set_option maxRecDepth 100000 in
theorem build_any (w : World) (l : List Tk) (a : Option Addr) (n c : Nat) (h : IsToks w w.heap.size l a n c) :
    Calls Tryd.prog 19 #[.slice a n c] w fun e w' => (∃ cv : VC, e = .returned (.agg #[.int .u8 cv.k, .int .i64 cv.n, .string cv.s, .slice cv.la cv.ll cv.lc, .slice cv.oa cv.ol cv.oc]) ∧ IsVal w' w'.heap.size (oneP 6 (l.take 60)).1 cv) ∧ Below w.heap.size w w' := by
  have hlen := h.len
  have hcap := h.cap
  have hmax := h.max
  have HD := Lib.hid (BC.start w #[.int .u8 0, .int .i64 0, .string { data := #[] }, .slice none 0 0, .slice none 0 0] 28)
  have hal : Below w.heap.size w (w.alloc (.cells #[.int .u8 0, .int .i64 0, .string { data := #[] }, .slice none 0 0, .slice none 0 0] 28)) := (Below.refl _ _).alloc (Nat.le_refl _) _
  have HAL := Lib.hid hal
  obtain ⟨N, hN⟩ : ∃ N, min n 60 = N := ⟨_, rfl⟩
  have hN2 : N ≤ n := by omega
  have htk : l.take N = l.take 60 := by
    by_cases hq : n ≤ 60
    · rw [List.take_of_length_le (by omega), List.take_of_length_le (by omega)]
    · rw [show N = 60 by omega]
  have HI := Lib.hid ((h.later_ hal).take N hN2)
  rw [htk] at HI
  obtain ⟨p, hp⟩ : ∃ p, oneP 6 (l.take 60) = p := ⟨_, rfl⟩
  have HP := Lib.hid hp
  rw [hp]
  have hcs : (n ≤ 60 ∧ N = n) ∨ (60 < n ∧ N = 60) := by omega
  clear hN hN2
  rcases hcs with ⟨hq, rfl⟩ | ⟨hq, rfl⟩
  all_goals
    clear h hlen hal htk hp
    go_enter Tryd.func19, Tryd.ntmps19
    generalize hQ0 : bodyPost _ _ _ = Q0
    have HQ := Lib.hid hQ0
    clear hQ0
    go_wp2_with fail
    refine (one_any 6 0 (by omega) (by omega) _ _ _ _ _ HI.out).mono ?_
    rw [HP.out]
    rintro e w3 ⟨⟨cv, rfl, hI3⟩, hb3⟩
    have D := HD.out.keep hb3 (by simp)
    have r0 := D.at_ 0 _ rfl; have r1 := D.at_ 1 _ rfl; have r2 := D.at_ 2 _ rfl; have r3 := D.at_ 3 _ rfl; have r4 := D.at_ 4 _ rfl
    have g0 := D.fr 0; have g1 := D.fr 1; have g2 := D.fr 2; have g3 := D.fr 3; have g4 := D.fr 4
    have zs3 : w.heap.size < w3.heap.size := D.lt
    have HD3 := Lib.hid D
    have HI3 := Lib.hid hI3
    have HB3 := Lib.hid (HAL.out.trans (hb3.mono (by simp)))
    clear D hI3 hb3
    go_wp2_with fail
    rw [← HQ.out]
    have s1 : RStep w3 (((((w3.setCell ⟨w.heap.size, 0, none⟩ (.int .u8 cv.k)).setCell ⟨w.heap.size, 1, none⟩ (.int .i64 cv.n)).setCell ⟨w.heap.size, 2, none⟩ (.string cv.s)).setCell ⟨w.heap.size, 3, none⟩ (.slice cv.la cv.ll cv.lc)).setCell ⟨w.heap.size, 4, none⟩ (.slice cv.oa cv.ol cv.oc)) w.heap.size := (((RStep.self.trans RStep.self).trans RStep.self).trans RStep.self).trans RStep.self
    have hbc : BC (((((w3.setCell ⟨w.heap.size, 0, none⟩ (.int .u8 cv.k)).setCell ⟨w.heap.size, 1, none⟩ (.int .i64 cv.n)).setCell ⟨w.heap.size, 2, none⟩ (.string cv.s)).setCell ⟨w.heap.size, 3, none⟩ (.slice cv.la cv.ll cv.lc)).setCell ⟨w.heap.size, 4, none⟩ (.slice cv.oa cv.ol cv.oc)) w.heap.size (vcells cv) := ((((HD3.out.set (i := 0) (x := .int .u8 cv.k) (by simp)).set (i := 1) (x := .int .i64 cv.n) (by simp)).set (i := 2) (x := .string cv.s) (by simp)).set (i := 3) (x := .slice cv.la cv.ll cv.lc) (by simp)).set (i := 4) (x := .slice cv.oa cv.ol cv.oc) (by simp)
    have hv := (isVal_far HI3.out s1 (by simp)).sub (shows_only _ _ _)
    have hB := HB3.out.trans (s1.below (by omega))
    exact ⟨rfl, _, results_build rfl (hbc.keep ((Below.refl _ _).alloc (Nat.le_refl _) _) hbc.lt), ⟨cv, rfl, hv.later_ ((Below.refl _ _).alloc (Nat.le_refl _) _)⟩, hB.alloc hB.size _⟩
end Go.Proofs.YtcfbnmobfcabiaaDoor
namespace Go.Proofs.YtcfbnmobfcabiaaDoor
open Go.RowKit

def rdRest (k : Int) (path : List St) (bs : List UInt8) : Option (Cm × List UInt8) :=
  (rdIf (hasB (saysB k) 75) .empty rdT bs).bind fun kk => (rdIf (hasB (saysB k) 73) 0 rdI kk.2).bind fun i => (rdIf (hasB (saysB k) 74) 0 rdI i.2).bind fun j =>
  (rdIf (hasB (saysB k) 78) 0 rdI j.2).bind fun m => (rdIf (hasB (saysB k) 86) V.none (rdV 18) m.2).bind fun v => (rdIf (hasB (saysB k) 83) .empty rdT v.2).bind fun s =>
  some (⟨k, path, kk.1, i.1, j.1, m.1, v.1, s.1⟩, s.2)
theorem rdC_eq (bs : List UInt8) : rdC bs = (rdN 1 bs).bind fun p => (rdM 1 p.2).bind fun n => (rdL (fun x => rdS x) n.1 n.2).bind fun q => rdRest p.1 q.1 q.2 := rfl
theorem rdI_none {bs : List UInt8} (h : rdN 8 bs = none) : rdI bs = none := by rw [rdI, h]; rfl
theorem rdI_some {bs r : List UInt8} {n : Nat} (h : rdN 8 bs = some (n, r)) : rdI bs = some (wrap64 n, r) := by rw [rdI, h]; rfl
theorem ginfoS : (Tryd.prog.info? 104).map (fun i => (i.zero, i.size, i.bytes)) = some (some (.agg #[.bool false, .int .i64 0, .string { data := #[] }]), 3, 32) := by kernel_rfl
theorem rdRest_1 {k : Int} (hk : k = 1) (p : List St) (bs : List UInt8) : rdRest k p bs = (rdI bs).bind fun zn => some (⟨k, p, .empty, 0, 0, zn.1, V.none, .empty⟩, zn.2) := by
  subst hk
  simp [rdRest, rdIf, saysB, hasB]
theorem rdRest_2 {k : Int} (hk : k = 2) (p : List St) (bs : List UInt8) : rdRest k p bs = (rdT bs).bind fun zk => (rdV 18 zk.2).bind fun zv => some (⟨k, p, zk.1, 0, 0, 0, zv.1, .empty⟩, zv.2) := by
  subst hk
  simp [rdRest, rdIf, saysB, hasB]
theorem rdRest_3 {k : Int} (hk : k = 3) (p : List St) (bs : List UInt8) : rdRest k p bs = (rdT bs).bind fun zk => some (⟨k, p, zk.1, 0, 0, 0, V.none, .empty⟩, zk.2) := by
  subst hk
  simp [rdRest, rdIf, saysB, hasB]
theorem rdRest_4 {k : Int} (hk : k = 4) (p : List St) (bs : List UInt8) : rdRest k p bs = (rdI bs).bind fun zi => (rdV 18 zi.2).bind fun zv => some (⟨k, p, .empty, zi.1, 0, 0, zv.1, .empty⟩, zv.2) := by
  subst hk
  simp [rdRest, rdIf, saysB, hasB]
theorem rdRest_5 {k : Int} (hk : k = 5) (p : List St) (bs : List UInt8) : rdRest k p bs = (rdI bs).bind fun zi => some (⟨k, p, .empty, zi.1, 0, 0, V.none, .empty⟩, zi.2) := by
  subst hk
  simp [rdRest, rdIf, saysB, hasB]
theorem rdRest_6 {k : Int} (hk : k = 6) (p : List St) (bs : List UInt8) : rdRest k p bs = (rdI bs).bind fun zi => (rdV 18 zi.2).bind fun zv => some (⟨k, p, .empty, zi.1, 0, 0, zv.1, .empty⟩, zv.2) := by
  subst hk
  simp [rdRest, rdIf, saysB, hasB]
theorem rdRest_7 {k : Int} (hk : k = 7) (p : List St) (bs : List UInt8) : rdRest k p bs = (rdI bs).bind fun zi => (rdI zi.2).bind fun zj => some (⟨k, p, .empty, zi.1, zj.1, 0, V.none, .empty⟩, zj.2) := by
  subst hk
  simp [rdRest, rdIf, saysB, hasB]
theorem rdRest_8 {k : Int} (hk : k = 8) (p : List St) (bs : List UInt8) : rdRest k p bs = (rdI bs).bind fun zi => (rdT zi.2).bind fun zs => some (⟨k, p, .empty, zi.1, 0, 0, V.none, zs.1⟩, zs.2) := by
  subst hk
  simp [rdRest, rdIf, saysB, hasB]
theorem rdRest_9 {k : Int} (hk : k = 9) (p : List St) (bs : List UInt8) : rdRest k p bs = (rdI bs).bind fun zi => (rdI zi.2).bind fun zn => some (⟨k, p, .empty, zi.1, 0, zn.1, V.none, .empty⟩, zn.2) := by
  subst hk
  simp [rdRest, rdIf, saysB, hasB]
theorem rdRest_0 {k : Int} (e1 : k ≠ 1) (e2 : k ≠ 2) (e3 : k ≠ 3) (e4 : k ≠ 4) (e5 : k ≠ 5) (e6 : k ≠ 6) (e7 : k ≠ 7) (e8 : k ≠ 8) (e9 : k ≠ 9) (p : List St) (bs : List UInt8) : rdRest k p bs = some (⟨k, p, .empty, 0, 0, 0, V.none, .empty⟩, bs) := by
  simp [rdRest, rdIf, saysB, hasB, e1, e2, e3, e4, e5, e6, e7, e8, e9]

theorem rv18_none (w : World) (rb : Nat) (bs : List UInt8) (h : Rdr w rb bs 0) (hr : rdV 18 bs = none) :
    Calls Tryd.prog 28 #[.pointer (some ⟨rb, 0, none⟩)] w fun e w' => e = .panicked [short] ∧ RStep w w' rb ∧ ∃ bs', Rdr w' rb bs' 0 := by
  have := rValue_any 18 w rb bs 0 h (by omega) (by omega)
  rw [hr] at this
  exact this.mono fun e w' ⟨h1, h2, h3⟩ => ⟨h2, h1, h3⟩
theorem rv18_some (w : World) (rb : Nat) (bs : List UInt8) (h : Rdr w rb bs 0) {x : V} {r : List UInt8} (hr : rdV 18 bs = some (x, r)) :
    Calls Tryd.prog 28 #[.pointer (some ⟨rb, 0, none⟩)] w fun e w' => ∃ c : VC, e = .returned (.agg #[.int .u8 c.k, .int .i64 c.n, .string c.s, .slice c.la c.ll c.lc, .slice c.oa c.ol c.oc]) ∧ RStep w w' rb ∧ IsVal (only (fun b => w.heap.size ≤ b) w') w'.heap.size x c ∧ Rdr w' rb r 0 := by
  have := rValue_any 18 w rb bs 0 h (by omega) (by omega)
  rw [hr] at this
  exact this.mono fun e w' h => RV_some h

set_option maxHeartbeats 16000000 in
set_option maxRecDepth 100000 in
theorem rComp_any (w : World) (rb : Nat) (bs : List UInt8) (h : Rdr w rb bs 0) {out : Option (Cm × List UInt8)} (hout : rdC bs = out) :
    Calls Tryd.prog 49 #[.pointer (some ⟨rb, 0, none⟩)] w (RCPost w rb 0 out) := by
  obtain ⟨i0, hi0, hz0, hz1, hz2⟩ := info_parts ginfoS
  have hlt := h.lt
  have HB := Lib.hid ((Below.refl _ _).alloc (Nat.le_refl _) (.cells #[.int .u8 0, .slice none 0 0, .string { data := #[] }, .int .i64 0, .int .i64 0, .int .i64 0, .int .u8 0, .int .i64 0, .string { data := #[] }, .slice none 0 0, .slice none 0 0, .string { data := #[] }] 70) : Below w.heap.size w (w.alloc (.cells #[.int .u8 0, .slice none 0 0, .string { data := #[] }, .int .i64 0, .int .i64 0, .int .i64 0, .int .u8 0, .int .i64 0, .string { data := #[] }, .slice none 0 0, .slice none 0 0, .string { data := #[] }] 70)))
  have HR0 := Lib.hid (h.of_below HB.out)
  have HC0 := Lib.hid (BC.start w #[.int .u8 0, .slice none 0 0, .string { data := #[] }, .int .i64 0, .int .i64 0, .int .i64 0, .int .u8 0, .int .i64 0, .string { data := #[] }, .slice none 0 0, .slice none 0 0, .string { data := #[] }] 70)
  rw [rdC_eq] at hout
  clear h
  cases hr : rdN 1 bs with
  | none =>
    obtain rfl : out = none := by rw [← hout, hr]; rfl
    clear hout
    have HN := Lib.hid hr
    clear hr
    go_enter Tryd.func49, Tryd.ntmps49
    go_wp2_with (go_at_call 46; (with_reducible refine (takeU81_none _ rb bs 0 HR0.out HN.out).mono ?_); rintro e w1 ⟨rfl, rfl⟩)
    exact ⟨rfl, .of_below rb HB.out, rfl, bs, HR0.out⟩
  | some p =>
  obtain ⟨kd, r⟩ := p
  have hk1 : kd < 256 := rdN_lt hr
  rw [hr] at hout
  simp only [Option.bind_some] at hout
  have HN := Lib.hid hr
  clear hr
  have TK : Hid (∀ W, W = w.alloc (.cells #[.int .u8 0, .slice none 0 0, .string { data := #[] }, .int .i64 0, .int .i64 0, .int .i64 0, .int .u8 0, .int .i64 0, .string { data := #[] }, .slice none 0 0, .slice none 0 0, .string { data := #[] }] 70) → Calls Tryd.prog 46 #[.pointer (some ⟨rb, 0, none⟩), .int .i64 1] W fun e w' => e = .returned (.int .u8 kd) ∧ Rdr w' rb r 0 ∧ RStep w w' rb ∧ BC w' w.heap.size (ccells czero) ∧ w.heap.size + 1 ≤ w'.heap.size) := by
    intro W hW
    subst hW
    refine (takeU81_some _ rb bs 0 HR0.out HN.out).mono fun e w' ⟨h1, h2, h3⟩ => ⟨h1, h2, (RStep.of_below rb HB.out).trans h3, HC0.out.next h3 (by omega), by have := h3.size; simp at this; omega⟩
  clear HN HR0 HC0
  cases hm : rdM 1 r with
  | none =>
    obtain rfl : out = none := by rw [← hout, hm]; rfl
    have HM := Lib.hid hm
    clear hout hm
    go_enter Tryd.func49, Tryd.ntmps49
    go_wp2_with (first | (go_at_call 46; (with_reducible refine (TK.out _ rfl).mono ?_); rintro e w1 ⟨rfl, hR, hS, hC, hz⟩) | (go_at_call 48; (with_reducible refine (many1_none _ rb r 0 (hR.of_below ((Below.refl _ _).alloc (Nat.le_refl _) _)) HM.out).mono ?_); rintro e w2 ⟨rfl, hS2, hR2⟩))
    exact ⟨rfl, (hS.trans (.of_below rb ((Below.refl _ _).alloc (Nat.le_refl _) _))).trans hS2, rfl, hR2⟩
  | some pn =>
  obtain ⟨n, q⟩ := pn
  rw [hm] at hout
  simp only [Option.bind_some] at hout
  have hn4 : n < 256 := rdN_lt (rdM_some hm).1
  have HM := Lib.hid hm
  have HO := Lib.hid hout
  clear hm hout
  go_enter Tryd.func49, Tryd.ntmps49
  go_wp2_with (first | (go_at_call 46; (with_reducible refine (TK.out _ rfl).mono ?_); rintro e w1 ⟨rfl, hR, hS, hC, hz⟩) | (go_at_call 48; (with_reducible refine (many1_some _ rb r 0 (hR.of_below ((Below.refl _ _).alloc (Nat.le_refl _) _)) HM.out).mono ?_); rintro e w2 ⟨rfl, hR2, hS2⟩))
  have LS0 : LS w w2 rb w1.heap.size 0 kd q 0 none 0 0 [] q := ⟨rfl, rfl, (fun _ hs => absurd hs (by simp)), hR2, (hS.trans (.of_below rb ((Below.refl _ _).alloc (Nat.le_refl _) _))).trans hS2, (hC.keep ((Below.refl _ _).alloc (Nat.le_refl _) _) (by omega)).next hS2 (by omega), (BC.start w1 #[.int .u8 kd, .slice none 0 0, .string { data := #[] }, .int .i64 0, .int .i64 0, .int .i64 0, .int .u8 0, .int .i64 0, .string { data := #[] }, .slice none 0 0, .slice none 0 0, .string { data := #[] }] 70).next hS2 (by omega), Row.nil _ _ _ _ _, hz, hlt⟩
  obtain ⟨cb, hcb⟩ : ∃ cb, w1.heap.size = cb := ⟨_, rfl⟩
  rw [hcb] at LS0 hz ⊢
  clear hR hC hR2 hcb TK HM HB
  have zs0 : w.heap.size < cb := by omega
  go_loopw [9] (fun i wr => ∃ (j : Nat) (a : Option Addr) (m c : Nat) (xs : List St) (rj : List UInt8), j ≤ n ∧ i = .int .i64 j ∧ LS w wr rb cb 0 kd q j a m c xs rj) (fun i _ => n - (intOf i).toNat)
  case atStart => exact ⟨0, none, 0, 0, [], q, Nat.zero_le _, rfl, LS0⟩
  case round =>
    clear LS0
    obtain ⟨j, a, m, c, xs, rj, hj, rfl, L⟩ := hrel
    have y1 := L.box.at_ 1 _ rfl
    have p1 := L.box.fr 1
    have hvlt := L.box.lt
    by_cases hlt2 : j < n
    · have HO2 : Hid (∀ W, RStep wr.drew W rb → W.ownsRow (cb + 1) 104 3 (.slice a m c) j (xs.flatMap scells) ∧ W.cell? ⟨cb, 1, none⟩ = some (.slice a m c) ∧ W.frozen? ⟨cb, 1, none⟩ = false ∧ cb < W.heap.size) := by
        intro W hW
        have ho := ((L.row.later PT.closed (.of_below rb (drew_below wr)) (by omega)).later PT.closed hW (by omega)).own
        rw [L.len] at ho
        exact ⟨ho, hW.cell (w := wr.drew) y1 (by omega), (hW.frozen (w := wr.drew) hvlt (by omega)).trans p1, Nat.lt_of_lt_of_le hvlt hW.size⟩
      have hne : (Value.slice a m c).ownBlock ≠ some cb := fun e => by have := (L.row.lt _ e).1; omega
      have HC : Hid (Calls Tryd.prog 81 #[.pointer (some ⟨rb, 0, none⟩)] wr.drew (RSPost wr.drew rb 0 (rdS rj))) := rStep_any wr.drew rb rj 0 (L.rdr.of_below (drew_below wr))
      cases hx : rdS rj with
      | none =>
        obtain rfl : out = none := by
          rw [← HO.out, rdL_none (f := fun x => rdS x) (i := j + 1) (n := n) (by rw [rdL, L.rd]; simp only [Option.bind_some, hx]; rfl) (by omega)]; rfl
        rw [hx] at HC
        have LL := Lib.hid L
        clear hx L
        go_wp2_with fail
        refine wp_region_panicP [] (fun w' => RStep wr.drew w' rb ∧ ∃ bs', Rdr w' rb bs' 0) (fun a w' hD hw => ?_) ?_
        · obtain ⟨hS4, bs4, hR4⟩ := hw
          exact ⟨hD, (LL.out.st.trans (.of_below rb (drew_below wr))).trans hS4, rfl, bs4, hR4⟩
        go_region_law
          (first
            | (go_simp; go_at_call 81; refine (HC.out).mono ?_; intro e w4 hP; by_cases hv : e = .returned (.agg #[.bool false, .int .i64 0, .string { data := #[] }]); rotate_left; (focus (obtain ⟨hS4, he, hR4⟩ := hP; subst he; exact ⟨rfl, rfl, hS4, hR4⟩)); obtain ⟨hS4, he, hR4⟩ := hP; rw [hv] at he; have HF := Lib.hid he; clear he; subst hv; obtain ⟨ho4, hc4, hf4, hv4⟩ := HO2.out w4 hS4)
            | (refine step_append_lies _ (by rfl) _ _ _ (by rfl) (cb + 1) 104 i0 _ 3 32 (by kernel_rfl) hi0 hz0 hz1 hz2 rfl (by omega) (.slice a m c) j (xs.flatMap scells) (by rfl) (ho4.alloc _) ⟨w4.heap.size, 0, none⟩ 1 1 (scells ⟨false, 0, .empty⟩) (by rfl) (by rfl) (World.news_of_block (t := 104) (fr := (0, 0)) (heap_alloc_new w4 _)) (by simp [scells, Value.oneCell']) (by omega) (by unfold maxLen; omega) (by omega) (by simp; omega) (w4.heap.size + 1) (by simp) ?_; intro g cap w5 hown5 hgrow5 hat5 hlt5; have hc5 : w5.cell? ⟨cb, 1, none⟩ = some (.slice a m c) := (hgrow5.cell_far ⟨cb, 1, none⟩ (by simp; omega) (Ne.symm hne)).trans (keep_cell ((Below.refl _ _).alloc (Nat.le_refl _) _) hc4 hv4); have hf5 : w5.frozen? ⟨cb, 1, none⟩ = false := (hgrow5.frozen_far ⟨cb, 1, none⟩ (by simp; omega) (Ne.symm hne)).trans ((((Below.refl _ _).alloc (Nat.le_refl _) _ : Below w4.heap.size w4 (w4.alloc _)).frozen (p := ⟨cb, 1, none⟩) hv4).trans hf4)))
        all_goals cases HF.out
      | some xr =>
      obtain ⟨x, r3⟩ := xr
      have HX := Lib.hid hx
      have LL := Lib.hid L
      rw [hx] at HC
      clear hx L
      go_wp2_with fail
      refine wp_region_noPanic ?_
      go_region_law
        (first
          | (go_simp; go_at_call 81; refine (HC.out).mono ?_; rintro e w4 ⟨hS4, rfl, hR4⟩; obtain ⟨ho4, hc4, hf4, hv4⟩ := HO2.out w4 hS4)
          | (refine step_append_lies _ (by rfl) _ _ _ (by rfl) (cb + 1) 104 i0 _ 3 32 (by kernel_rfl) hi0 hz0 hz1 hz2 rfl (by omega) (.slice a m c) j (xs.flatMap scells) (by rfl) (ho4.alloc _) ⟨w4.heap.size, 0, none⟩ 1 1 (scells x) (by rfl) (by rfl) (World.news_of_block (t := 104) (fr := (0, 0)) (heap_alloc_new w4 _)) (by simp [scells, Value.oneCell']) (by omega) (by unfold maxLen; omega) (by omega) (by simp; omega) (w4.heap.size + 1) (by simp) ?_; intro g cap w5 hown5 hgrow5 hat5 hlt5; have hc5 : w5.cell? ⟨cb, 1, none⟩ = some (.slice a m c) := (hgrow5.cell_far ⟨cb, 1, none⟩ (by simp; omega) (Ne.symm hne)).trans (keep_cell ((Below.refl _ _).alloc (Nat.le_refl _) _) hc4 hv4); have hf5 : w5.frozen? ⟨cb, 1, none⟩ = false := (hgrow5.frozen_far ⟨cb, 1, none⟩ (by simp; omega) (Ne.symm hne)).trans ((((Below.refl _ _).alloc (Nat.le_refl _) _ : Below w4.heap.size w4 (w4.alloc _)).frozen (p := ⟨cb, 1, none⟩) hv4).trans hf4)))
      all_goals
        refine NoPanic.normal ?_
        go_wp2_with fail
        go_roundw
        case rel => exact ⟨j + 1, some ⟨g, 0, none⟩, j + 1, cap, xs ++ [x], r3, by omega, by go_num, LL.out.round HX.out hS4 hR4 hown5 hgrow5 hat5⟩
        case measure => simp [intOf]; omega
    · have hjn : j = n := by omega
      subst hjn
      have HO3 : Hid (rdRest kd xs rj = out) := by unfold Hid; rw [← HO.out, L.rd]; rfl
      have B := CB.start L (by omega)
      clear L HO y1 p1
      by_cases e1 : kd = 1
      case pos =>
        have HE := Lib.hid (rdRest_1 (k := kd) (by omega) xs rj)
        have f1 : ((kd : Int) == 1) = true := by subst e1; rfl
        have f2 : ((kd : Int) == 2) = false := by subst e1; rfl
        have f3 : ((kd : Int) == 3) = false := by subst e1; rfl
        have f4 : ((kd : Int) == 4) = false := by subst e1; rfl
        have f5 : ((kd : Int) == 5) = false := by subst e1; rfl
        have f6 : ((kd : Int) == 6) = false := by subst e1; rfl
        have f7 : ((kd : Int) == 7) = false := by subst e1; rfl
        have f8 : ((kd : Int) == 8) = false := by subst e1; rfl
        have f9 : ((kd : Int) == 9) = false := by subst e1; rfl
        clear e1
        have y0 := B.box.at_ 0 _ rfl
        cases s0 : rdN 8 rj with
        | none =>
          obtain rfl : out = none := by rw [← HO3.out, HE.out]; simp only [rdI_none s0]; rfl
          have HS0 := Lib.hid s0
          clear s0
          go_wp2_with (go_at_call 57; (with_reducible refine (takeI648_none _ rb rj 0 B.rdr HS0.out).mono ?_); rintro e w9 ⟨rfl, rfl⟩)
          exact ⟨rfl, B.st, rfl, _, B.rdr⟩
        | some t0 =>
          obtain ⟨n0, q0⟩ := t0
          have E0 := Lib.hid (rdI_some s0)
          have HS0 := Lib.hid s0
          clear s0
          go_wp2_with (go_at_call 57; (with_reducible refine (takeI648_some _ rb rj 0 B.rdr HS0.out).mono ?_); rintro e w3 ⟨rfl, hR3, hS3⟩; have BN0 := B.next hS3 hR3; have p5 := BN0.box.fr 5; have y0 := BN0.box.at_ 0 _ rfl; have y1 := BN0.box.at_ 1 _ rfl; have y2 := BN0.box.at_ 2 _ rfl; have y3 := BN0.box.at_ 3 _ rfl; have y4 := BN0.box.at_ 4 _ rfl; have y5 := BN0.box.at_ 5 _ rfl; have y6 := BN0.box.at_ 6 _ rfl; have y7 := BN0.box.at_ 7 _ rfl; have y8 := BN0.box.at_ 8 _ rfl; have y9 := BN0.box.at_ 9 _ rfl; have y10 := BN0.box.at_ 10 _ rfl; have y11 := BN0.box.at_ 11 _ rfl; have r0 := BN0.res.at_ 0 _ rfl; have gr0 := BN0.res.fr 0; have r1 := BN0.res.at_ 1 _ rfl; have gr1 := BN0.res.fr 1; have r2 := BN0.res.at_ 2 _ rfl; have gr2 := BN0.res.fr 2; have r3 := BN0.res.at_ 3 _ rfl; have gr3 := BN0.res.fr 3; have r4 := BN0.res.at_ 4 _ rfl; have gr4 := BN0.res.fr 4; have r5 := BN0.res.at_ 5 _ rfl; have gr5 := BN0.res.fr 5; have r6 := BN0.res.at_ 6 _ rfl; have gr6 := BN0.res.fr 6; have r7 := BN0.res.at_ 7 _ rfl; have gr7 := BN0.res.fr 7; have r8 := BN0.res.at_ 8 _ rfl; have gr8 := BN0.res.fr 8; have r9 := BN0.res.at_ 9 _ rfl; have gr9 := BN0.res.fr 9; have r10 := BN0.res.at_ 10 _ rfl; have gr10 := BN0.res.fr 10; have r11 := BN0.res.at_ 11 _ rfl; have gr11 := BN0.res.fr 11)
          have B1 : CB w (w3.setCell ⟨cb, 5, none⟩ (.int .i64 (wrap64 n0))) rb cb 0 q0 xs V.none ⟨kd, a, m, c, .empty, 0, 0, (wrap64 n0), vzero, .empty⟩ := BN0.set1 RStep.self (BN0.box.set (i := 5) (x := .int .i64 (wrap64 n0)) (by simp [ccells])) rfl rfl rfl rfl
          obtain rfl : out = some (⟨kd, xs, .empty, 0, 0, (wrap64 n0), V.none, .empty⟩, q0) := by rw [← HO3.out, HE.out]; simp only [E0.out, Option.bind_some]
          exact B1.leave (⟨by show (0 : Int) ≤ (kd : Int); omega, by show (kd : Int) < 256; omega, (by decide : (-9223372036854775808 : Int) ≤ 0), (by decide : (0 : Int) ≤ 9223372036854775807), (by decide : (-9223372036854775808 : Int) ≤ 0), (by decide : (0 : Int) ≤ 9223372036854775807), i64_lo _, i64_hi _, (by decide : ByteArray.empty.size ≤ 140737488355328), (by decide : ByteArray.empty.size ≤ 140737488355328)⟩) rfl rfl rfl
      have f1 : ((kd : Int) == 1) = false := by simp; omega
      by_cases e2 : kd = 2
      case pos =>
        have HE := Lib.hid (rdRest_2 (k := kd) (by omega) xs rj)
        have f2 : ((kd : Int) == 2) = true := by subst e2; rfl
        have f3 : ((kd : Int) == 3) = false := by subst e2; rfl
        have f4 : ((kd : Int) == 4) = false := by subst e2; rfl
        have f5 : ((kd : Int) == 5) = false := by subst e2; rfl
        have f6 : ((kd : Int) == 6) = false := by subst e2; rfl
        have f7 : ((kd : Int) == 7) = false := by subst e2; rfl
        have f8 : ((kd : Int) == 8) = false := by subst e2; rfl
        have f9 : ((kd : Int) == 9) = false := by subst e2; rfl
        clear e2
        have y0 := B.box.at_ 0 _ rfl
        cases s0 : rdT rj with
        | none =>
          obtain rfl : out = none := by rw [← HO3.out, HE.out]; simp only [s0]; rfl
          have HS0 := Lib.hid s0
          clear s0
          go_wp2_with (go_at_call 58; (with_reducible refine (rText_none _ rb rj 0 B.rdr HS0.out).mono ?_); rintro e w9 ⟨rfl, hS9, hR9⟩)
          exact ⟨rfl, B.st.trans hS9, rfl, hR9⟩
        | some t0 =>
          obtain ⟨k0, q0⟩ := t0
          have E0 := Lib.hid (s0)
          have HS0 := Lib.hid s0
          clear s0
          go_wp2_with (go_at_call 58; (with_reducible refine (rText_some _ rb rj 0 B.rdr HS0.out).mono ?_); rintro e w3 ⟨rfl, hR3, hS3⟩; have BN0 := B.next hS3 hR3; have p2 := BN0.box.fr 2; have y0 := BN0.box.at_ 0 _ rfl; have y1 := BN0.box.at_ 1 _ rfl; have y2 := BN0.box.at_ 2 _ rfl; have y3 := BN0.box.at_ 3 _ rfl; have y4 := BN0.box.at_ 4 _ rfl; have y5 := BN0.box.at_ 5 _ rfl; have y6 := BN0.box.at_ 6 _ rfl; have y7 := BN0.box.at_ 7 _ rfl; have y8 := BN0.box.at_ 8 _ rfl; have y9 := BN0.box.at_ 9 _ rfl; have y10 := BN0.box.at_ 10 _ rfl; have y11 := BN0.box.at_ 11 _ rfl)
          have B1 : CB w (w3.setCell ⟨cb, 2, none⟩ (.string k0)) rb cb 0 q0 xs V.none ⟨kd, a, m, c, k0, 0, 0, 0, vzero, .empty⟩ := BN0.set1 RStep.self (BN0.box.set (i := 2) (x := .string k0) (by simp [ccells])) rfl rfl rfl rfl
          cases s1 : rdV 18 q0 with
          | none =>
            obtain rfl : out = none := by rw [← HO3.out, HE.out]; simp only [E0.out, Option.bind_some, s1]; rfl
            have HS1 := Lib.hid s1
            clear s1
            go_wp2_with (go_at_call 28; (with_reducible refine (rv18_none _ rb q0 B1.rdr HS1.out).mono ?_); rintro e w9 ⟨rfl, hS9, hR9⟩)
            exact ⟨rfl, B1.st.trans hS9, rfl, hR9⟩
          | some t1 =>
            obtain ⟨v1, q1⟩ := t1
            have E1 := Lib.hid (s1)
            have HS1 := Lib.hid s1
            clear s1
            rename_i KR aR KC aC
            have HKR := Lib.hid aR
            clear aR
            go_wp2_with (go_at_call 28; (with_reducible refine (rv18_some _ rb q0 B1.rdr HS1.out).mono ?_); rintro e w4 ⟨cv, rfl, hS4, hI4, hR4⟩; have BN1 := B1.next hS4 hR4; have p6 := BN1.box.fr 6; have p7 := BN1.box.fr 7; have p8 := BN1.box.fr 8; have p9 := BN1.box.fr 9; have p10 := BN1.box.fr 10; have y6 := BN1.box.at_ 6 _ rfl; have y7 := BN1.box.at_ 7 _ rfl; have y8 := BN1.box.at_ 8 _ rfl; have y9 := BN1.box.at_ 9 _ rfl; have y10 := BN1.box.at_ 10 _ rfl)
            have B2 : CB w (((((w4.setCell ⟨cb, 6, none⟩ (.int .u8 cv.k)).setCell ⟨cb, 7, none⟩ (.int .i64 cv.n)).setCell ⟨cb, 8, none⟩ (.string cv.s)).setCell ⟨cb, 9, none⟩ (.slice cv.la cv.ll cv.lc)).setCell ⟨cb, 10, none⟩ (.slice cv.oa cv.ol cv.oc)) rb cb 0 q1 xs v1 ⟨kd, a, m, c, k0, 0, 0, 0, cv, .empty⟩ := B1.value hS4 hR4 hI4 ((((RStep.self.trans RStep.self).trans RStep.self).trans RStep.self).trans RStep.self) (((((BN1.box.set (i := 6) (x := .int .u8 cv.k) (by simp [ccells])).set (i := 7) (x := .int .i64 cv.n) (by simp [ccells])).set (i := 8) (x := .string cv.s) (by simp [ccells])).set (i := 9) (x := .slice cv.la cv.ll cv.lc) (by simp [ccells])).set (i := 10) (x := .slice cv.oa cv.ol cv.oc) (by simp [ccells])) rfl rfl rfl
            obtain ⟨W2, hW2⟩ : ∃ W2, (((((w4.setCell ⟨cb, 6, none⟩ (.int .u8 cv.k)).setCell ⟨cb, 7, none⟩ (.int .i64 cv.n)).setCell ⟨cb, 8, none⟩ (.string cv.s)).setCell ⟨cb, 9, none⟩ (.slice cv.la cv.ll cv.lc)).setCell ⟨cb, 10, none⟩ (.slice cv.oa cv.ol cv.oc)) = W2 := ⟨_, rfl⟩
            rw [hW2] at B2 ⊢
            have hcl := B2.box.lt
            clear hW2 BN1 hI4
            have y0 := B2.box.at_ 0 _ rfl; have y1 := B2.box.at_ 1 _ rfl; have y2 := B2.box.at_ 2 _ rfl; have y3 := B2.box.at_ 3 _ rfl; have y4 := B2.box.at_ 4 _ rfl; have y5 := B2.box.at_ 5 _ rfl; have y6 := B2.box.at_ 6 _ rfl; have y7 := B2.box.at_ 7 _ rfl; have y8 := B2.box.at_ 8 _ rfl; have y9 := B2.box.at_ 9 _ rfl; have y10 := B2.box.at_ 10 _ rfl; have y11 := B2.box.at_ 11 _ rfl
            have r0 := B2.res.at_ 0 _ rfl; have gr0 := B2.res.fr 0; have r1 := B2.res.at_ 1 _ rfl; have gr1 := B2.res.fr 1; have r2 := B2.res.at_ 2 _ rfl; have gr2 := B2.res.fr 2; have r3 := B2.res.at_ 3 _ rfl; have gr3 := B2.res.fr 3; have r4 := B2.res.at_ 4 _ rfl; have gr4 := B2.res.fr 4; have r5 := B2.res.at_ 5 _ rfl; have gr5 := B2.res.fr 5; have r6 := B2.res.at_ 6 _ rfl; have gr6 := B2.res.fr 6; have r7 := B2.res.at_ 7 _ rfl; have gr7 := B2.res.fr 7; have r8 := B2.res.at_ 8 _ rfl; have gr8 := B2.res.fr 8; have r9 := B2.res.at_ 9 _ rfl; have gr9 := B2.res.fr 9; have r10 := B2.res.at_ 10 _ rfl; have gr10 := B2.res.fr 10; have r11 := B2.res.at_ 11 _ rfl; have gr11 := B2.res.fr 11
            refine HKR.out _ _ ?_
            go_wp2_with fail
            obtain rfl : out = some (⟨kd, xs, k0, 0, 0, 0, v1, .empty⟩, q1) := by rw [← HO3.out, HE.out]; simp only [E0.out, E1.out, Option.bind_some]
            exact B2.leave (⟨by show (0 : Int) ≤ (kd : Int); omega, by show (kd : Int) < 256; omega, (by decide : (-9223372036854775808 : Int) ≤ 0), (by decide : (0 : Int) ≤ 9223372036854775807), (by decide : (-9223372036854775808 : Int) ≤ 0), (by decide : (0 : Int) ≤ 9223372036854775807), (by decide : (-9223372036854775808 : Int) ≤ 0), (by decide : (0 : Int) ≤ 9223372036854775807), rdT_size E0.out, (by decide : ByteArray.empty.size ≤ 140737488355328)⟩) rfl rfl rfl
      have f2 : ((kd : Int) == 2) = false := by simp; omega
      by_cases e3 : kd = 3
      case pos =>
        have HE := Lib.hid (rdRest_3 (k := kd) (by omega) xs rj)
        have f3 : ((kd : Int) == 3) = true := by subst e3; rfl
        have f4 : ((kd : Int) == 4) = false := by subst e3; rfl
        have f5 : ((kd : Int) == 5) = false := by subst e3; rfl
        have f6 : ((kd : Int) == 6) = false := by subst e3; rfl
        have f7 : ((kd : Int) == 7) = false := by subst e3; rfl
        have f8 : ((kd : Int) == 8) = false := by subst e3; rfl
        have f9 : ((kd : Int) == 9) = false := by subst e3; rfl
        clear e3
        have y0 := B.box.at_ 0 _ rfl
        cases s0 : rdT rj with
        | none =>
          obtain rfl : out = none := by rw [← HO3.out, HE.out]; simp only [s0]; rfl
          have HS0 := Lib.hid s0
          clear s0
          go_wp2_with (go_at_call 58; (with_reducible refine (rText_none _ rb rj 0 B.rdr HS0.out).mono ?_); rintro e w9 ⟨rfl, hS9, hR9⟩)
          exact ⟨rfl, B.st.trans hS9, rfl, hR9⟩
        | some t0 =>
          obtain ⟨k0, q0⟩ := t0
          have E0 := Lib.hid (s0)
          have HS0 := Lib.hid s0
          clear s0
          go_wp2_with (go_at_call 58; (with_reducible refine (rText_some _ rb rj 0 B.rdr HS0.out).mono ?_); rintro e w3 ⟨rfl, hR3, hS3⟩; have BN0 := B.next hS3 hR3; have p2 := BN0.box.fr 2; have y0 := BN0.box.at_ 0 _ rfl; have y1 := BN0.box.at_ 1 _ rfl; have y2 := BN0.box.at_ 2 _ rfl; have y3 := BN0.box.at_ 3 _ rfl; have y4 := BN0.box.at_ 4 _ rfl; have y5 := BN0.box.at_ 5 _ rfl; have y6 := BN0.box.at_ 6 _ rfl; have y7 := BN0.box.at_ 7 _ rfl; have y8 := BN0.box.at_ 8 _ rfl; have y9 := BN0.box.at_ 9 _ rfl; have y10 := BN0.box.at_ 10 _ rfl; have y11 := BN0.box.at_ 11 _ rfl; have r0 := BN0.res.at_ 0 _ rfl; have gr0 := BN0.res.fr 0; have r1 := BN0.res.at_ 1 _ rfl; have gr1 := BN0.res.fr 1; have r2 := BN0.res.at_ 2 _ rfl; have gr2 := BN0.res.fr 2; have r3 := BN0.res.at_ 3 _ rfl; have gr3 := BN0.res.fr 3; have r4 := BN0.res.at_ 4 _ rfl; have gr4 := BN0.res.fr 4; have r5 := BN0.res.at_ 5 _ rfl; have gr5 := BN0.res.fr 5; have r6 := BN0.res.at_ 6 _ rfl; have gr6 := BN0.res.fr 6; have r7 := BN0.res.at_ 7 _ rfl; have gr7 := BN0.res.fr 7; have r8 := BN0.res.at_ 8 _ rfl; have gr8 := BN0.res.fr 8; have r9 := BN0.res.at_ 9 _ rfl; have gr9 := BN0.res.fr 9; have r10 := BN0.res.at_ 10 _ rfl; have gr10 := BN0.res.fr 10; have r11 := BN0.res.at_ 11 _ rfl; have gr11 := BN0.res.fr 11)
          have B1 : CB w (w3.setCell ⟨cb, 2, none⟩ (.string k0)) rb cb 0 q0 xs V.none ⟨kd, a, m, c, k0, 0, 0, 0, vzero, .empty⟩ := BN0.set1 RStep.self (BN0.box.set (i := 2) (x := .string k0) (by simp [ccells])) rfl rfl rfl rfl
          obtain rfl : out = some (⟨kd, xs, k0, 0, 0, 0, V.none, .empty⟩, q0) := by rw [← HO3.out, HE.out]; simp only [E0.out, Option.bind_some]
          exact B1.leave (⟨by show (0 : Int) ≤ (kd : Int); omega, by show (kd : Int) < 256; omega, (by decide : (-9223372036854775808 : Int) ≤ 0), (by decide : (0 : Int) ≤ 9223372036854775807), (by decide : (-9223372036854775808 : Int) ≤ 0), (by decide : (0 : Int) ≤ 9223372036854775807), (by decide : (-9223372036854775808 : Int) ≤ 0), (by decide : (0 : Int) ≤ 9223372036854775807), rdT_size E0.out, (by decide : ByteArray.empty.size ≤ 140737488355328)⟩) rfl rfl rfl
      have f3 : ((kd : Int) == 3) = false := by simp; omega
      by_cases e4 : kd = 4
      case pos =>
        have HE := Lib.hid (rdRest_4 (k := kd) (by omega) xs rj)
        have f4 : ((kd : Int) == 4) = true := by subst e4; rfl
        have f5 : ((kd : Int) == 5) = false := by subst e4; rfl
        have f6 : ((kd : Int) == 6) = false := by subst e4; rfl
        have f7 : ((kd : Int) == 7) = false := by subst e4; rfl
        have f8 : ((kd : Int) == 8) = false := by subst e4; rfl
        have f9 : ((kd : Int) == 9) = false := by subst e4; rfl
        clear e4
        have y0 := B.box.at_ 0 _ rfl
        cases s0 : rdN 8 rj with
        | none =>
          obtain rfl : out = none := by rw [← HO3.out, HE.out]; simp only [rdI_none s0]; rfl
          have HS0 := Lib.hid s0
          clear s0
          go_wp2_with (go_at_call 80; (with_reducible refine (takeInt8_none _ rb rj 0 B.rdr HS0.out).mono ?_); rintro e w9 ⟨rfl, rfl⟩)
          exact ⟨rfl, B.st, rfl, _, B.rdr⟩
        | some t0 =>
          obtain ⟨i0, q0⟩ := t0
          have E0 := Lib.hid (rdI_some s0)
          have HS0 := Lib.hid s0
          clear s0
          go_wp2_with (go_at_call 80; (with_reducible refine (takeInt8_some _ rb rj 0 B.rdr HS0.out).mono ?_); rintro e w3 ⟨rfl, hR3, hS3⟩; have BN0 := B.next hS3 hR3; have p3 := BN0.box.fr 3; have y0 := BN0.box.at_ 0 _ rfl; have y1 := BN0.box.at_ 1 _ rfl; have y2 := BN0.box.at_ 2 _ rfl; have y3 := BN0.box.at_ 3 _ rfl; have y4 := BN0.box.at_ 4 _ rfl; have y5 := BN0.box.at_ 5 _ rfl; have y6 := BN0.box.at_ 6 _ rfl; have y7 := BN0.box.at_ 7 _ rfl; have y8 := BN0.box.at_ 8 _ rfl; have y9 := BN0.box.at_ 9 _ rfl; have y10 := BN0.box.at_ 10 _ rfl; have y11 := BN0.box.at_ 11 _ rfl)
          have B1 : CB w (w3.setCell ⟨cb, 3, none⟩ (.int .i64 (wrap64 i0))) rb cb 0 q0 xs V.none ⟨kd, a, m, c, .empty, (wrap64 i0), 0, 0, vzero, .empty⟩ := BN0.set1 RStep.self (BN0.box.set (i := 3) (x := .int .i64 (wrap64 i0)) (by simp [ccells])) rfl rfl rfl rfl
          cases s1 : rdV 18 q0 with
          | none =>
            obtain rfl : out = none := by rw [← HO3.out, HE.out]; simp only [E0.out, Option.bind_some, s1]; rfl
            have HS1 := Lib.hid s1
            clear s1
            go_wp2_with (go_at_call 28; (with_reducible refine (rv18_none _ rb q0 B1.rdr HS1.out).mono ?_); rintro e w9 ⟨rfl, hS9, hR9⟩)
            exact ⟨rfl, B1.st.trans hS9, rfl, hR9⟩
          | some t1 =>
            obtain ⟨v1, q1⟩ := t1
            have E1 := Lib.hid (s1)
            have HS1 := Lib.hid s1
            clear s1
            rename_i KR aR KC aC
            have HKR := Lib.hid aR
            clear aR
            go_wp2_with (go_at_call 28; (with_reducible refine (rv18_some _ rb q0 B1.rdr HS1.out).mono ?_); rintro e w4 ⟨cv, rfl, hS4, hI4, hR4⟩; have BN1 := B1.next hS4 hR4; have p6 := BN1.box.fr 6; have p7 := BN1.box.fr 7; have p8 := BN1.box.fr 8; have p9 := BN1.box.fr 9; have p10 := BN1.box.fr 10; have y6 := BN1.box.at_ 6 _ rfl; have y7 := BN1.box.at_ 7 _ rfl; have y8 := BN1.box.at_ 8 _ rfl; have y9 := BN1.box.at_ 9 _ rfl; have y10 := BN1.box.at_ 10 _ rfl)
            have B2 : CB w (((((w4.setCell ⟨cb, 6, none⟩ (.int .u8 cv.k)).setCell ⟨cb, 7, none⟩ (.int .i64 cv.n)).setCell ⟨cb, 8, none⟩ (.string cv.s)).setCell ⟨cb, 9, none⟩ (.slice cv.la cv.ll cv.lc)).setCell ⟨cb, 10, none⟩ (.slice cv.oa cv.ol cv.oc)) rb cb 0 q1 xs v1 ⟨kd, a, m, c, .empty, (wrap64 i0), 0, 0, cv, .empty⟩ := B1.value hS4 hR4 hI4 ((((RStep.self.trans RStep.self).trans RStep.self).trans RStep.self).trans RStep.self) (((((BN1.box.set (i := 6) (x := .int .u8 cv.k) (by simp [ccells])).set (i := 7) (x := .int .i64 cv.n) (by simp [ccells])).set (i := 8) (x := .string cv.s) (by simp [ccells])).set (i := 9) (x := .slice cv.la cv.ll cv.lc) (by simp [ccells])).set (i := 10) (x := .slice cv.oa cv.ol cv.oc) (by simp [ccells])) rfl rfl rfl
            obtain ⟨W2, hW2⟩ : ∃ W2, (((((w4.setCell ⟨cb, 6, none⟩ (.int .u8 cv.k)).setCell ⟨cb, 7, none⟩ (.int .i64 cv.n)).setCell ⟨cb, 8, none⟩ (.string cv.s)).setCell ⟨cb, 9, none⟩ (.slice cv.la cv.ll cv.lc)).setCell ⟨cb, 10, none⟩ (.slice cv.oa cv.ol cv.oc)) = W2 := ⟨_, rfl⟩
            rw [hW2] at B2 ⊢
            have hcl := B2.box.lt
            clear hW2 BN1 hI4
            have y0 := B2.box.at_ 0 _ rfl; have y1 := B2.box.at_ 1 _ rfl; have y2 := B2.box.at_ 2 _ rfl; have y3 := B2.box.at_ 3 _ rfl; have y4 := B2.box.at_ 4 _ rfl; have y5 := B2.box.at_ 5 _ rfl; have y6 := B2.box.at_ 6 _ rfl; have y7 := B2.box.at_ 7 _ rfl; have y8 := B2.box.at_ 8 _ rfl; have y9 := B2.box.at_ 9 _ rfl; have y10 := B2.box.at_ 10 _ rfl; have y11 := B2.box.at_ 11 _ rfl
            have r0 := B2.res.at_ 0 _ rfl; have gr0 := B2.res.fr 0; have r1 := B2.res.at_ 1 _ rfl; have gr1 := B2.res.fr 1; have r2 := B2.res.at_ 2 _ rfl; have gr2 := B2.res.fr 2; have r3 := B2.res.at_ 3 _ rfl; have gr3 := B2.res.fr 3; have r4 := B2.res.at_ 4 _ rfl; have gr4 := B2.res.fr 4; have r5 := B2.res.at_ 5 _ rfl; have gr5 := B2.res.fr 5; have r6 := B2.res.at_ 6 _ rfl; have gr6 := B2.res.fr 6; have r7 := B2.res.at_ 7 _ rfl; have gr7 := B2.res.fr 7; have r8 := B2.res.at_ 8 _ rfl; have gr8 := B2.res.fr 8; have r9 := B2.res.at_ 9 _ rfl; have gr9 := B2.res.fr 9; have r10 := B2.res.at_ 10 _ rfl; have gr10 := B2.res.fr 10; have r11 := B2.res.at_ 11 _ rfl; have gr11 := B2.res.fr 11
            refine HKR.out _ _ ?_
            go_wp2_with fail
            obtain rfl : out = some (⟨kd, xs, .empty, (wrap64 i0), 0, 0, v1, .empty⟩, q1) := by rw [← HO3.out, HE.out]; simp only [E0.out, E1.out, Option.bind_some]
            exact B2.leave (⟨by show (0 : Int) ≤ (kd : Int); omega, by show (kd : Int) < 256; omega, i64_lo _, i64_hi _, (by decide : (-9223372036854775808 : Int) ≤ 0), (by decide : (0 : Int) ≤ 9223372036854775807), (by decide : (-9223372036854775808 : Int) ≤ 0), (by decide : (0 : Int) ≤ 9223372036854775807), (by decide : ByteArray.empty.size ≤ 140737488355328), (by decide : ByteArray.empty.size ≤ 140737488355328)⟩) rfl rfl rfl
      have f4 : ((kd : Int) == 4) = false := by simp; omega
      by_cases e5 : kd = 5
      case pos =>
        have HE := Lib.hid (rdRest_5 (k := kd) (by omega) xs rj)
        have f5 : ((kd : Int) == 5) = true := by subst e5; rfl
        have f6 : ((kd : Int) == 6) = false := by subst e5; rfl
        have f7 : ((kd : Int) == 7) = false := by subst e5; rfl
        have f8 : ((kd : Int) == 8) = false := by subst e5; rfl
        have f9 : ((kd : Int) == 9) = false := by subst e5; rfl
        clear e5
        have y0 := B.box.at_ 0 _ rfl
        cases s0 : rdN 8 rj with
        | none =>
          obtain rfl : out = none := by rw [← HO3.out, HE.out]; simp only [rdI_none s0]; rfl
          have HS0 := Lib.hid s0
          clear s0
          go_wp2_with (go_at_call 80; (with_reducible refine (takeInt8_none _ rb rj 0 B.rdr HS0.out).mono ?_); rintro e w9 ⟨rfl, rfl⟩)
          exact ⟨rfl, B.st, rfl, _, B.rdr⟩
        | some t0 =>
          obtain ⟨i0, q0⟩ := t0
          have E0 := Lib.hid (rdI_some s0)
          have HS0 := Lib.hid s0
          clear s0
          go_wp2_with (go_at_call 80; (with_reducible refine (takeInt8_some _ rb rj 0 B.rdr HS0.out).mono ?_); rintro e w3 ⟨rfl, hR3, hS3⟩; have BN0 := B.next hS3 hR3; have p3 := BN0.box.fr 3; have y0 := BN0.box.at_ 0 _ rfl; have y1 := BN0.box.at_ 1 _ rfl; have y2 := BN0.box.at_ 2 _ rfl; have y3 := BN0.box.at_ 3 _ rfl; have y4 := BN0.box.at_ 4 _ rfl; have y5 := BN0.box.at_ 5 _ rfl; have y6 := BN0.box.at_ 6 _ rfl; have y7 := BN0.box.at_ 7 _ rfl; have y8 := BN0.box.at_ 8 _ rfl; have y9 := BN0.box.at_ 9 _ rfl; have y10 := BN0.box.at_ 10 _ rfl; have y11 := BN0.box.at_ 11 _ rfl; have r0 := BN0.res.at_ 0 _ rfl; have gr0 := BN0.res.fr 0; have r1 := BN0.res.at_ 1 _ rfl; have gr1 := BN0.res.fr 1; have r2 := BN0.res.at_ 2 _ rfl; have gr2 := BN0.res.fr 2; have r3 := BN0.res.at_ 3 _ rfl; have gr3 := BN0.res.fr 3; have r4 := BN0.res.at_ 4 _ rfl; have gr4 := BN0.res.fr 4; have r5 := BN0.res.at_ 5 _ rfl; have gr5 := BN0.res.fr 5; have r6 := BN0.res.at_ 6 _ rfl; have gr6 := BN0.res.fr 6; have r7 := BN0.res.at_ 7 _ rfl; have gr7 := BN0.res.fr 7; have r8 := BN0.res.at_ 8 _ rfl; have gr8 := BN0.res.fr 8; have r9 := BN0.res.at_ 9 _ rfl; have gr9 := BN0.res.fr 9; have r10 := BN0.res.at_ 10 _ rfl; have gr10 := BN0.res.fr 10; have r11 := BN0.res.at_ 11 _ rfl; have gr11 := BN0.res.fr 11)
          have B1 : CB w (w3.setCell ⟨cb, 3, none⟩ (.int .i64 (wrap64 i0))) rb cb 0 q0 xs V.none ⟨kd, a, m, c, .empty, (wrap64 i0), 0, 0, vzero, .empty⟩ := BN0.set1 RStep.self (BN0.box.set (i := 3) (x := .int .i64 (wrap64 i0)) (by simp [ccells])) rfl rfl rfl rfl
          obtain rfl : out = some (⟨kd, xs, .empty, (wrap64 i0), 0, 0, V.none, .empty⟩, q0) := by rw [← HO3.out, HE.out]; simp only [E0.out, Option.bind_some]
          exact B1.leave (⟨by show (0 : Int) ≤ (kd : Int); omega, by show (kd : Int) < 256; omega, i64_lo _, i64_hi _, (by decide : (-9223372036854775808 : Int) ≤ 0), (by decide : (0 : Int) ≤ 9223372036854775807), (by decide : (-9223372036854775808 : Int) ≤ 0), (by decide : (0 : Int) ≤ 9223372036854775807), (by decide : ByteArray.empty.size ≤ 140737488355328), (by decide : ByteArray.empty.size ≤ 140737488355328)⟩) rfl rfl rfl
      have f5 : ((kd : Int) == 5) = false := by simp; omega
      by_cases e6 : kd = 6
      case pos =>
        have HE := Lib.hid (rdRest_6 (k := kd) (by omega) xs rj)
        have f6 : ((kd : Int) == 6) = true := by subst e6; rfl
        have f7 : ((kd : Int) == 7) = false := by subst e6; rfl
        have f8 : ((kd : Int) == 8) = false := by subst e6; rfl
        have f9 : ((kd : Int) == 9) = false := by subst e6; rfl
        clear e6
        have y0 := B.box.at_ 0 _ rfl
        cases s0 : rdN 8 rj with
        | none =>
          obtain rfl : out = none := by rw [← HO3.out, HE.out]; simp only [rdI_none s0]; rfl
          have HS0 := Lib.hid s0
          clear s0
          go_wp2_with (go_at_call 80; (with_reducible refine (takeInt8_none _ rb rj 0 B.rdr HS0.out).mono ?_); rintro e w9 ⟨rfl, rfl⟩)
          exact ⟨rfl, B.st, rfl, _, B.rdr⟩
        | some t0 =>
          obtain ⟨i0, q0⟩ := t0
          have E0 := Lib.hid (rdI_some s0)
          have HS0 := Lib.hid s0
          clear s0
          go_wp2_with (go_at_call 80; (with_reducible refine (takeInt8_some _ rb rj 0 B.rdr HS0.out).mono ?_); rintro e w3 ⟨rfl, hR3, hS3⟩; have BN0 := B.next hS3 hR3; have p3 := BN0.box.fr 3; have y0 := BN0.box.at_ 0 _ rfl; have y1 := BN0.box.at_ 1 _ rfl; have y2 := BN0.box.at_ 2 _ rfl; have y3 := BN0.box.at_ 3 _ rfl; have y4 := BN0.box.at_ 4 _ rfl; have y5 := BN0.box.at_ 5 _ rfl; have y6 := BN0.box.at_ 6 _ rfl; have y7 := BN0.box.at_ 7 _ rfl; have y8 := BN0.box.at_ 8 _ rfl; have y9 := BN0.box.at_ 9 _ rfl; have y10 := BN0.box.at_ 10 _ rfl; have y11 := BN0.box.at_ 11 _ rfl)
          have B1 : CB w (w3.setCell ⟨cb, 3, none⟩ (.int .i64 (wrap64 i0))) rb cb 0 q0 xs V.none ⟨kd, a, m, c, .empty, (wrap64 i0), 0, 0, vzero, .empty⟩ := BN0.set1 RStep.self (BN0.box.set (i := 3) (x := .int .i64 (wrap64 i0)) (by simp [ccells])) rfl rfl rfl rfl
          cases s1 : rdV 18 q0 with
          | none =>
            obtain rfl : out = none := by rw [← HO3.out, HE.out]; simp only [E0.out, Option.bind_some, s1]; rfl
            have HS1 := Lib.hid s1
            clear s1
            go_wp2_with (go_at_call 28; (with_reducible refine (rv18_none _ rb q0 B1.rdr HS1.out).mono ?_); rintro e w9 ⟨rfl, hS9, hR9⟩)
            exact ⟨rfl, B1.st.trans hS9, rfl, hR9⟩
          | some t1 =>
            obtain ⟨v1, q1⟩ := t1
            have E1 := Lib.hid (s1)
            have HS1 := Lib.hid s1
            clear s1
            rename_i KR aR KC aC
            have HKR := Lib.hid aR
            clear aR
            go_wp2_with (go_at_call 28; (with_reducible refine (rv18_some _ rb q0 B1.rdr HS1.out).mono ?_); rintro e w4 ⟨cv, rfl, hS4, hI4, hR4⟩; have BN1 := B1.next hS4 hR4; have p6 := BN1.box.fr 6; have p7 := BN1.box.fr 7; have p8 := BN1.box.fr 8; have p9 := BN1.box.fr 9; have p10 := BN1.box.fr 10; have y6 := BN1.box.at_ 6 _ rfl; have y7 := BN1.box.at_ 7 _ rfl; have y8 := BN1.box.at_ 8 _ rfl; have y9 := BN1.box.at_ 9 _ rfl; have y10 := BN1.box.at_ 10 _ rfl)
            have B2 : CB w (((((w4.setCell ⟨cb, 6, none⟩ (.int .u8 cv.k)).setCell ⟨cb, 7, none⟩ (.int .i64 cv.n)).setCell ⟨cb, 8, none⟩ (.string cv.s)).setCell ⟨cb, 9, none⟩ (.slice cv.la cv.ll cv.lc)).setCell ⟨cb, 10, none⟩ (.slice cv.oa cv.ol cv.oc)) rb cb 0 q1 xs v1 ⟨kd, a, m, c, .empty, (wrap64 i0), 0, 0, cv, .empty⟩ := B1.value hS4 hR4 hI4 ((((RStep.self.trans RStep.self).trans RStep.self).trans RStep.self).trans RStep.self) (((((BN1.box.set (i := 6) (x := .int .u8 cv.k) (by simp [ccells])).set (i := 7) (x := .int .i64 cv.n) (by simp [ccells])).set (i := 8) (x := .string cv.s) (by simp [ccells])).set (i := 9) (x := .slice cv.la cv.ll cv.lc) (by simp [ccells])).set (i := 10) (x := .slice cv.oa cv.ol cv.oc) (by simp [ccells])) rfl rfl rfl
            obtain ⟨W2, hW2⟩ : ∃ W2, (((((w4.setCell ⟨cb, 6, none⟩ (.int .u8 cv.k)).setCell ⟨cb, 7, none⟩ (.int .i64 cv.n)).setCell ⟨cb, 8, none⟩ (.string cv.s)).setCell ⟨cb, 9, none⟩ (.slice cv.la cv.ll cv.lc)).setCell ⟨cb, 10, none⟩ (.slice cv.oa cv.ol cv.oc)) = W2 := ⟨_, rfl⟩
            rw [hW2] at B2 ⊢
            have hcl := B2.box.lt
            clear hW2 BN1 hI4
            have y0 := B2.box.at_ 0 _ rfl; have y1 := B2.box.at_ 1 _ rfl; have y2 := B2.box.at_ 2 _ rfl; have y3 := B2.box.at_ 3 _ rfl; have y4 := B2.box.at_ 4 _ rfl; have y5 := B2.box.at_ 5 _ rfl; have y6 := B2.box.at_ 6 _ rfl; have y7 := B2.box.at_ 7 _ rfl; have y8 := B2.box.at_ 8 _ rfl; have y9 := B2.box.at_ 9 _ rfl; have y10 := B2.box.at_ 10 _ rfl; have y11 := B2.box.at_ 11 _ rfl
            have r0 := B2.res.at_ 0 _ rfl; have gr0 := B2.res.fr 0; have r1 := B2.res.at_ 1 _ rfl; have gr1 := B2.res.fr 1; have r2 := B2.res.at_ 2 _ rfl; have gr2 := B2.res.fr 2; have r3 := B2.res.at_ 3 _ rfl; have gr3 := B2.res.fr 3; have r4 := B2.res.at_ 4 _ rfl; have gr4 := B2.res.fr 4; have r5 := B2.res.at_ 5 _ rfl; have gr5 := B2.res.fr 5; have r6 := B2.res.at_ 6 _ rfl; have gr6 := B2.res.fr 6; have r7 := B2.res.at_ 7 _ rfl; have gr7 := B2.res.fr 7; have r8 := B2.res.at_ 8 _ rfl; have gr8 := B2.res.fr 8; have r9 := B2.res.at_ 9 _ rfl; have gr9 := B2.res.fr 9; have r10 := B2.res.at_ 10 _ rfl; have gr10 := B2.res.fr 10; have r11 := B2.res.at_ 11 _ rfl; have gr11 := B2.res.fr 11
            refine HKR.out _ _ ?_
            go_wp2_with fail
            obtain rfl : out = some (⟨kd, xs, .empty, (wrap64 i0), 0, 0, v1, .empty⟩, q1) := by rw [← HO3.out, HE.out]; simp only [E0.out, E1.out, Option.bind_some]
            exact B2.leave (⟨by show (0 : Int) ≤ (kd : Int); omega, by show (kd : Int) < 256; omega, i64_lo _, i64_hi _, (by decide : (-9223372036854775808 : Int) ≤ 0), (by decide : (0 : Int) ≤ 9223372036854775807), (by decide : (-9223372036854775808 : Int) ≤ 0), (by decide : (0 : Int) ≤ 9223372036854775807), (by decide : ByteArray.empty.size ≤ 140737488355328), (by decide : ByteArray.empty.size ≤ 140737488355328)⟩) rfl rfl rfl
      have f6 : ((kd : Int) == 6) = false := by simp; omega
      by_cases e7 : kd = 7
      case pos =>
        have HE := Lib.hid (rdRest_7 (k := kd) (by omega) xs rj)
        have f7 : ((kd : Int) == 7) = true := by subst e7; rfl
        have f8 : ((kd : Int) == 8) = false := by subst e7; rfl
        have f9 : ((kd : Int) == 9) = false := by subst e7; rfl
        clear e7
        have y0 := B.box.at_ 0 _ rfl
        cases s0 : rdN 8 rj with
        | none =>
          obtain rfl : out = none := by rw [← HO3.out, HE.out]; simp only [rdI_none s0]; rfl
          have HS0 := Lib.hid s0
          clear s0
          go_wp2_with (go_at_call 80; (with_reducible refine (takeInt8_none _ rb rj 0 B.rdr HS0.out).mono ?_); rintro e w9 ⟨rfl, rfl⟩)
          exact ⟨rfl, B.st, rfl, _, B.rdr⟩
        | some t0 =>
          obtain ⟨i0, q0⟩ := t0
          have E0 := Lib.hid (rdI_some s0)
          have HS0 := Lib.hid s0
          clear s0
          go_wp2_with (go_at_call 80; (with_reducible refine (takeInt8_some _ rb rj 0 B.rdr HS0.out).mono ?_); rintro e w3 ⟨rfl, hR3, hS3⟩; have BN0 := B.next hS3 hR3; have p3 := BN0.box.fr 3; have y0 := BN0.box.at_ 0 _ rfl; have y1 := BN0.box.at_ 1 _ rfl; have y2 := BN0.box.at_ 2 _ rfl; have y3 := BN0.box.at_ 3 _ rfl; have y4 := BN0.box.at_ 4 _ rfl; have y5 := BN0.box.at_ 5 _ rfl; have y6 := BN0.box.at_ 6 _ rfl; have y7 := BN0.box.at_ 7 _ rfl; have y8 := BN0.box.at_ 8 _ rfl; have y9 := BN0.box.at_ 9 _ rfl; have y10 := BN0.box.at_ 10 _ rfl; have y11 := BN0.box.at_ 11 _ rfl)
          have B1 : CB w (w3.setCell ⟨cb, 3, none⟩ (.int .i64 (wrap64 i0))) rb cb 0 q0 xs V.none ⟨kd, a, m, c, .empty, (wrap64 i0), 0, 0, vzero, .empty⟩ := BN0.set1 RStep.self (BN0.box.set (i := 3) (x := .int .i64 (wrap64 i0)) (by simp [ccells])) rfl rfl rfl rfl
          cases s1 : rdN 8 q0 with
          | none =>
            obtain rfl : out = none := by rw [← HO3.out, HE.out]; simp only [E0.out, Option.bind_some, rdI_none s1]; rfl
            have HS1 := Lib.hid s1
            clear s1
            go_wp2_with (go_at_call 80; (with_reducible refine (takeInt8_none _ rb q0 0 B1.rdr HS1.out).mono ?_); rintro e w9 ⟨rfl, rfl⟩)
            exact ⟨rfl, B1.st, rfl, _, B1.rdr⟩
          | some t1 =>
            obtain ⟨j1, q1⟩ := t1
            have E1 := Lib.hid (rdI_some s1)
            have HS1 := Lib.hid s1
            clear s1
            go_wp2_with (go_at_call 80; (with_reducible refine (takeInt8_some _ rb q0 0 B1.rdr HS1.out).mono ?_); rintro e w4 ⟨rfl, hR4, hS4⟩; have BN1 := B1.next hS4 hR4; have p4 := BN1.box.fr 4; have y0 := BN1.box.at_ 0 _ rfl; have y1 := BN1.box.at_ 1 _ rfl; have y2 := BN1.box.at_ 2 _ rfl; have y3 := BN1.box.at_ 3 _ rfl; have y4 := BN1.box.at_ 4 _ rfl; have y5 := BN1.box.at_ 5 _ rfl; have y6 := BN1.box.at_ 6 _ rfl; have y7 := BN1.box.at_ 7 _ rfl; have y8 := BN1.box.at_ 8 _ rfl; have y9 := BN1.box.at_ 9 _ rfl; have y10 := BN1.box.at_ 10 _ rfl; have y11 := BN1.box.at_ 11 _ rfl; have r0 := BN1.res.at_ 0 _ rfl; have gr0 := BN1.res.fr 0; have r1 := BN1.res.at_ 1 _ rfl; have gr1 := BN1.res.fr 1; have r2 := BN1.res.at_ 2 _ rfl; have gr2 := BN1.res.fr 2; have r3 := BN1.res.at_ 3 _ rfl; have gr3 := BN1.res.fr 3; have r4 := BN1.res.at_ 4 _ rfl; have gr4 := BN1.res.fr 4; have r5 := BN1.res.at_ 5 _ rfl; have gr5 := BN1.res.fr 5; have r6 := BN1.res.at_ 6 _ rfl; have gr6 := BN1.res.fr 6; have r7 := BN1.res.at_ 7 _ rfl; have gr7 := BN1.res.fr 7; have r8 := BN1.res.at_ 8 _ rfl; have gr8 := BN1.res.fr 8; have r9 := BN1.res.at_ 9 _ rfl; have gr9 := BN1.res.fr 9; have r10 := BN1.res.at_ 10 _ rfl; have gr10 := BN1.res.fr 10; have r11 := BN1.res.at_ 11 _ rfl; have gr11 := BN1.res.fr 11)
            have B2 : CB w (w4.setCell ⟨cb, 4, none⟩ (.int .i64 (wrap64 j1))) rb cb 0 q1 xs V.none ⟨kd, a, m, c, .empty, (wrap64 i0), (wrap64 j1), 0, vzero, .empty⟩ := BN1.set1 RStep.self (BN1.box.set (i := 4) (x := .int .i64 (wrap64 j1)) (by simp [ccells])) rfl rfl rfl rfl
            obtain rfl : out = some (⟨kd, xs, .empty, (wrap64 i0), (wrap64 j1), 0, V.none, .empty⟩, q1) := by rw [← HO3.out, HE.out]; simp only [E0.out, E1.out, Option.bind_some]
            exact B2.leave (⟨by show (0 : Int) ≤ (kd : Int); omega, by show (kd : Int) < 256; omega, i64_lo _, i64_hi _, i64_lo _, i64_hi _, (by decide : (-9223372036854775808 : Int) ≤ 0), (by decide : (0 : Int) ≤ 9223372036854775807), (by decide : ByteArray.empty.size ≤ 140737488355328), (by decide : ByteArray.empty.size ≤ 140737488355328)⟩) rfl rfl rfl
      have f7 : ((kd : Int) == 7) = false := by simp; omega
      by_cases e8 : kd = 8
      case pos =>
        have HE := Lib.hid (rdRest_8 (k := kd) (by omega) xs rj)
        have f8 : ((kd : Int) == 8) = true := by subst e8; rfl
        have f9 : ((kd : Int) == 9) = false := by subst e8; rfl
        clear e8
        have y0 := B.box.at_ 0 _ rfl
        cases s0 : rdN 8 rj with
        | none =>
          obtain rfl : out = none := by rw [← HO3.out, HE.out]; simp only [rdI_none s0]; rfl
          have HS0 := Lib.hid s0
          clear s0
          go_wp2_with (go_at_call 80; (with_reducible refine (takeInt8_none _ rb rj 0 B.rdr HS0.out).mono ?_); rintro e w9 ⟨rfl, rfl⟩)
          exact ⟨rfl, B.st, rfl, _, B.rdr⟩
        | some t0 =>
          obtain ⟨i0, q0⟩ := t0
          have E0 := Lib.hid (rdI_some s0)
          have HS0 := Lib.hid s0
          clear s0
          go_wp2_with (go_at_call 80; (with_reducible refine (takeInt8_some _ rb rj 0 B.rdr HS0.out).mono ?_); rintro e w3 ⟨rfl, hR3, hS3⟩; have BN0 := B.next hS3 hR3; have p3 := BN0.box.fr 3; have y0 := BN0.box.at_ 0 _ rfl; have y1 := BN0.box.at_ 1 _ rfl; have y2 := BN0.box.at_ 2 _ rfl; have y3 := BN0.box.at_ 3 _ rfl; have y4 := BN0.box.at_ 4 _ rfl; have y5 := BN0.box.at_ 5 _ rfl; have y6 := BN0.box.at_ 6 _ rfl; have y7 := BN0.box.at_ 7 _ rfl; have y8 := BN0.box.at_ 8 _ rfl; have y9 := BN0.box.at_ 9 _ rfl; have y10 := BN0.box.at_ 10 _ rfl; have y11 := BN0.box.at_ 11 _ rfl)
          have B1 : CB w (w3.setCell ⟨cb, 3, none⟩ (.int .i64 (wrap64 i0))) rb cb 0 q0 xs V.none ⟨kd, a, m, c, .empty, (wrap64 i0), 0, 0, vzero, .empty⟩ := BN0.set1 RStep.self (BN0.box.set (i := 3) (x := .int .i64 (wrap64 i0)) (by simp [ccells])) rfl rfl rfl rfl
          cases s1 : rdT q0 with
          | none =>
            obtain rfl : out = none := by rw [← HO3.out, HE.out]; simp only [E0.out, Option.bind_some, s1]; rfl
            have HS1 := Lib.hid s1
            clear s1
            go_wp2_with (go_at_call 58; (with_reducible refine (rText_none _ rb q0 0 B1.rdr HS1.out).mono ?_); rintro e w9 ⟨rfl, hS9, hR9⟩)
            exact ⟨rfl, B1.st.trans hS9, rfl, hR9⟩
          | some t1 =>
            obtain ⟨s1, q1⟩ := t1
            have E1 := Lib.hid (s1)
            have HS1 := Lib.hid s1
            clear s1
            go_wp2_with (go_at_call 58; (with_reducible refine (rText_some _ rb q0 0 B1.rdr HS1.out).mono ?_); rintro e w4 ⟨rfl, hR4, hS4⟩; have BN1 := B1.next hS4 hR4; have p11 := BN1.box.fr 11; have y0 := BN1.box.at_ 0 _ rfl; have y1 := BN1.box.at_ 1 _ rfl; have y2 := BN1.box.at_ 2 _ rfl; have y3 := BN1.box.at_ 3 _ rfl; have y4 := BN1.box.at_ 4 _ rfl; have y5 := BN1.box.at_ 5 _ rfl; have y6 := BN1.box.at_ 6 _ rfl; have y7 := BN1.box.at_ 7 _ rfl; have y8 := BN1.box.at_ 8 _ rfl; have y9 := BN1.box.at_ 9 _ rfl; have y10 := BN1.box.at_ 10 _ rfl; have y11 := BN1.box.at_ 11 _ rfl; have r0 := BN1.res.at_ 0 _ rfl; have gr0 := BN1.res.fr 0; have r1 := BN1.res.at_ 1 _ rfl; have gr1 := BN1.res.fr 1; have r2 := BN1.res.at_ 2 _ rfl; have gr2 := BN1.res.fr 2; have r3 := BN1.res.at_ 3 _ rfl; have gr3 := BN1.res.fr 3; have r4 := BN1.res.at_ 4 _ rfl; have gr4 := BN1.res.fr 4; have r5 := BN1.res.at_ 5 _ rfl; have gr5 := BN1.res.fr 5; have r6 := BN1.res.at_ 6 _ rfl; have gr6 := BN1.res.fr 6; have r7 := BN1.res.at_ 7 _ rfl; have gr7 := BN1.res.fr 7; have r8 := BN1.res.at_ 8 _ rfl; have gr8 := BN1.res.fr 8; have r9 := BN1.res.at_ 9 _ rfl; have gr9 := BN1.res.fr 9; have r10 := BN1.res.at_ 10 _ rfl; have gr10 := BN1.res.fr 10; have r11 := BN1.res.at_ 11 _ rfl; have gr11 := BN1.res.fr 11)
            have B2 : CB w (w4.setCell ⟨cb, 11, none⟩ (.string s1)) rb cb 0 q1 xs V.none ⟨kd, a, m, c, .empty, (wrap64 i0), 0, 0, vzero, s1⟩ := BN1.set1 RStep.self (BN1.box.set (i := 11) (x := .string s1) (by simp [ccells])) rfl rfl rfl rfl
            obtain rfl : out = some (⟨kd, xs, .empty, (wrap64 i0), 0, 0, V.none, s1⟩, q1) := by rw [← HO3.out, HE.out]; simp only [E0.out, E1.out, Option.bind_some]
            exact B2.leave (⟨by show (0 : Int) ≤ (kd : Int); omega, by show (kd : Int) < 256; omega, i64_lo _, i64_hi _, (by decide : (-9223372036854775808 : Int) ≤ 0), (by decide : (0 : Int) ≤ 9223372036854775807), (by decide : (-9223372036854775808 : Int) ≤ 0), (by decide : (0 : Int) ≤ 9223372036854775807), (by decide : ByteArray.empty.size ≤ 140737488355328), rdT_size E1.out⟩) rfl rfl rfl
      have f8 : ((kd : Int) == 8) = false := by simp; omega
      by_cases e9 : kd = 9
      case pos =>
        have HE := Lib.hid (rdRest_9 (k := kd) (by omega) xs rj)
        have f9 : ((kd : Int) == 9) = true := by subst e9; rfl
        clear e9
        have y0 := B.box.at_ 0 _ rfl
        cases s0 : rdN 8 rj with
        | none =>
          obtain rfl : out = none := by rw [← HO3.out, HE.out]; simp only [rdI_none s0]; rfl
          have HS0 := Lib.hid s0
          clear s0
          go_wp2_with (go_at_call 80; (with_reducible refine (takeInt8_none _ rb rj 0 B.rdr HS0.out).mono ?_); rintro e w9 ⟨rfl, rfl⟩)
          exact ⟨rfl, B.st, rfl, _, B.rdr⟩
        | some t0 =>
          obtain ⟨i0, q0⟩ := t0
          have E0 := Lib.hid (rdI_some s0)
          have HS0 := Lib.hid s0
          clear s0
          go_wp2_with (go_at_call 80; (with_reducible refine (takeInt8_some _ rb rj 0 B.rdr HS0.out).mono ?_); rintro e w3 ⟨rfl, hR3, hS3⟩; have BN0 := B.next hS3 hR3; have p3 := BN0.box.fr 3; have y0 := BN0.box.at_ 0 _ rfl; have y1 := BN0.box.at_ 1 _ rfl; have y2 := BN0.box.at_ 2 _ rfl; have y3 := BN0.box.at_ 3 _ rfl; have y4 := BN0.box.at_ 4 _ rfl; have y5 := BN0.box.at_ 5 _ rfl; have y6 := BN0.box.at_ 6 _ rfl; have y7 := BN0.box.at_ 7 _ rfl; have y8 := BN0.box.at_ 8 _ rfl; have y9 := BN0.box.at_ 9 _ rfl; have y10 := BN0.box.at_ 10 _ rfl; have y11 := BN0.box.at_ 11 _ rfl)
          have B1 : CB w (w3.setCell ⟨cb, 3, none⟩ (.int .i64 (wrap64 i0))) rb cb 0 q0 xs V.none ⟨kd, a, m, c, .empty, (wrap64 i0), 0, 0, vzero, .empty⟩ := BN0.set1 RStep.self (BN0.box.set (i := 3) (x := .int .i64 (wrap64 i0)) (by simp [ccells])) rfl rfl rfl rfl
          cases s1 : rdN 8 q0 with
          | none =>
            obtain rfl : out = none := by rw [← HO3.out, HE.out]; simp only [E0.out, Option.bind_some, rdI_none s1]; rfl
            have HS1 := Lib.hid s1
            clear s1
            go_wp2_with (go_at_call 57; (with_reducible refine (takeI648_none _ rb q0 0 B1.rdr HS1.out).mono ?_); rintro e w9 ⟨rfl, rfl⟩)
            exact ⟨rfl, B1.st, rfl, _, B1.rdr⟩
          | some t1 =>
            obtain ⟨n1, q1⟩ := t1
            have E1 := Lib.hid (rdI_some s1)
            have HS1 := Lib.hid s1
            clear s1
            go_wp2_with (go_at_call 57; (with_reducible refine (takeI648_some _ rb q0 0 B1.rdr HS1.out).mono ?_); rintro e w4 ⟨rfl, hR4, hS4⟩; have BN1 := B1.next hS4 hR4; have p5 := BN1.box.fr 5; have y0 := BN1.box.at_ 0 _ rfl; have y1 := BN1.box.at_ 1 _ rfl; have y2 := BN1.box.at_ 2 _ rfl; have y3 := BN1.box.at_ 3 _ rfl; have y4 := BN1.box.at_ 4 _ rfl; have y5 := BN1.box.at_ 5 _ rfl; have y6 := BN1.box.at_ 6 _ rfl; have y7 := BN1.box.at_ 7 _ rfl; have y8 := BN1.box.at_ 8 _ rfl; have y9 := BN1.box.at_ 9 _ rfl; have y10 := BN1.box.at_ 10 _ rfl; have y11 := BN1.box.at_ 11 _ rfl; have r0 := BN1.res.at_ 0 _ rfl; have gr0 := BN1.res.fr 0; have r1 := BN1.res.at_ 1 _ rfl; have gr1 := BN1.res.fr 1; have r2 := BN1.res.at_ 2 _ rfl; have gr2 := BN1.res.fr 2; have r3 := BN1.res.at_ 3 _ rfl; have gr3 := BN1.res.fr 3; have r4 := BN1.res.at_ 4 _ rfl; have gr4 := BN1.res.fr 4; have r5 := BN1.res.at_ 5 _ rfl; have gr5 := BN1.res.fr 5; have r6 := BN1.res.at_ 6 _ rfl; have gr6 := BN1.res.fr 6; have r7 := BN1.res.at_ 7 _ rfl; have gr7 := BN1.res.fr 7; have r8 := BN1.res.at_ 8 _ rfl; have gr8 := BN1.res.fr 8; have r9 := BN1.res.at_ 9 _ rfl; have gr9 := BN1.res.fr 9; have r10 := BN1.res.at_ 10 _ rfl; have gr10 := BN1.res.fr 10; have r11 := BN1.res.at_ 11 _ rfl; have gr11 := BN1.res.fr 11)
            have B2 : CB w (w4.setCell ⟨cb, 5, none⟩ (.int .i64 (wrap64 n1))) rb cb 0 q1 xs V.none ⟨kd, a, m, c, .empty, (wrap64 i0), 0, (wrap64 n1), vzero, .empty⟩ := BN1.set1 RStep.self (BN1.box.set (i := 5) (x := .int .i64 (wrap64 n1)) (by simp [ccells])) rfl rfl rfl rfl
            obtain rfl : out = some (⟨kd, xs, .empty, (wrap64 i0), 0, (wrap64 n1), V.none, .empty⟩, q1) := by rw [← HO3.out, HE.out]; simp only [E0.out, E1.out, Option.bind_some]
            exact B2.leave (⟨by show (0 : Int) ≤ (kd : Int); omega, by show (kd : Int) < 256; omega, i64_lo _, i64_hi _, (by decide : (-9223372036854775808 : Int) ≤ 0), (by decide : (0 : Int) ≤ 9223372036854775807), i64_lo _, i64_hi _, (by decide : ByteArray.empty.size ≤ 140737488355328), (by decide : ByteArray.empty.size ≤ 140737488355328)⟩) rfl rfl rfl
      have f9 : ((kd : Int) == 9) = false := by simp; omega
      have HE := Lib.hid (rdRest_0 (k := kd) (by omega) (by omega) (by omega) (by omega) (by omega) (by omega) (by omega) (by omega) (by omega) xs rj)
      obtain rfl : out = some (⟨kd, xs, .empty, 0, 0, 0, V.none, .empty⟩, rj) := by rw [← HO3.out, HE.out]
      clear e1 e2 e3 e4 e5 e6 e7 e8 e9
      have y0 := B.box.at_ 0 _ rfl; have y1 := B.box.at_ 1 _ rfl; have y2 := B.box.at_ 2 _ rfl; have y3 := B.box.at_ 3 _ rfl; have y4 := B.box.at_ 4 _ rfl; have y5 := B.box.at_ 5 _ rfl; have y6 := B.box.at_ 6 _ rfl; have y7 := B.box.at_ 7 _ rfl; have y8 := B.box.at_ 8 _ rfl; have y9 := B.box.at_ 9 _ rfl; have y10 := B.box.at_ 10 _ rfl; have y11 := B.box.at_ 11 _ rfl
      have r0 := B.res.at_ 0 _ rfl; have gr0 := B.res.fr 0; have r1 := B.res.at_ 1 _ rfl; have gr1 := B.res.fr 1; have r2 := B.res.at_ 2 _ rfl; have gr2 := B.res.fr 2; have r3 := B.res.at_ 3 _ rfl; have gr3 := B.res.fr 3; have r4 := B.res.at_ 4 _ rfl; have gr4 := B.res.fr 4; have r5 := B.res.at_ 5 _ rfl; have gr5 := B.res.fr 5; have r6 := B.res.at_ 6 _ rfl; have gr6 := B.res.fr 6; have r7 := B.res.at_ 7 _ rfl; have gr7 := B.res.fr 7; have r8 := B.res.at_ 8 _ rfl; have gr8 := B.res.fr 8; have r9 := B.res.at_ 9 _ rfl; have gr9 := B.res.fr 9; have r10 := B.res.at_ 10 _ rfl; have gr10 := B.res.fr 10; have r11 := B.res.at_ 11 _ rfl; have gr11 := B.res.fr 11
      go_wp2_with fail
      exact B.leave (⟨by show (0 : Int) ≤ (kd : Int); omega, by show (kd : Int) < 256; omega, (by decide : (-9223372036854775808 : Int) ≤ 0), (by decide : (0 : Int) ≤ 9223372036854775807), (by decide : (-9223372036854775808 : Int) ≤ 0), (by decide : (0 : Int) ≤ 9223372036854775807), (by decide : (-9223372036854775808 : Int) ≤ 0), (by decide : (0 : Int) ≤ 9223372036854775807), (by decide : ByteArray.empty.size ≤ 140737488355328), (by decide : ByteArray.empty.size ≤ 140737488355328)⟩) rfl rfl rfl
end Go.Proofs.YtcfbnmobfcabiaaDoor
