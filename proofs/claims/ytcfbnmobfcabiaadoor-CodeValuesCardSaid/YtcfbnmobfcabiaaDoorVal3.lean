/-
  Contracts of the functions that the law reaches: Writer.comp: a component is written. done; Encode and Value, of the program and of the reference. Encode and Value of the reference.
-/
import Derived.Test.YtcfbnmobfcabiaaDoorVal2
namespace Go.Proofs.YtcfbnmobfcabiaaDoor
open Go.RowKit
theorem in10_75_any (s : ByteArray) (w : World) (hs : s.size ≤ 140737488355328) : Calls Tryd.prog 52 #[.string s, .int .u8 75] w fun e w' => e = .returned (.bool (hasB s 75)) ∧ Below w.heap.size w w' := in10_any s 75 w hs
theorem in10_73_any (s : ByteArray) (w : World) (hs : s.size ≤ 140737488355328) : Calls Tryd.prog 52 #[.string s, .int .u8 73] w fun e w' => e = .returned (.bool (hasB s 73)) ∧ Below w.heap.size w w' := in10_any s 73 w hs
theorem in10_74_any (s : ByteArray) (w : World) (hs : s.size ≤ 140737488355328) : Calls Tryd.prog 52 #[.string s, .int .u8 74] w fun e w' => e = .returned (.bool (hasB s 74)) ∧ Below w.heap.size w w' := in10_any s 74 w hs
theorem in10_78_any (s : ByteArray) (w : World) (hs : s.size ≤ 140737488355328) : Calls Tryd.prog 52 #[.string s, .int .u8 78] w fun e w' => e = .returned (.bool (hasB s 78)) ∧ Below w.heap.size w w' := in10_any s 78 w hs
theorem in10_86_any (s : ByteArray) (w : World) (hs : s.size ≤ 140737488355328) : Calls Tryd.prog 52 #[.string s, .int .u8 86] w fun e w' => e = .returned (.bool (hasB s 86)) ∧ Below w.heap.size w w' := in10_any s 86 w hs
theorem in10_83_any (s : ByteArray) (w : World) (hs : s.size ≤ 140737488355328) : Calls Tryd.prog 52 #[.string s, .int .u8 83] w fun e w' => e = .returned (.bool (hasB s 83)) ∧ Below w.heap.size w w' := in10_any s 83 w hs

set_option maxHeartbeats 8000000 in
set_option maxRecDepth 100000 in
theorem refCompW_any (x : Cm) (w : World) (B wb : Nat) (v : Value) (bs : List UInt8) (c : CC) (h : Wr w B wb v bs) (hx : IsComp w B x c) (hsz : bs.length + (encC x).length ≤ 140737488355328) :
    Calls Tryd.prog 54 #[.pointer (some ⟨wb, 0, none⟩), .agg #[.int .u8 c.k, .slice c.pa c.pl c.pc, .string c.key, .int .i64 c.i, .int .i64 c.j, .int .i64 c.n, .int .u8 c.v.k, .int .i64 c.v.n, .string c.v.s, .slice c.v.la c.v.ll c.v.lc, .slice c.v.oa c.v.ol c.v.oc, .string c.s]] w fun e w' => e = .returned (.tuple #[]) ∧ ∃ v', Wr w' B wb v' (bs ++ encC x) ∧ WStep w w' wb v v' := by
  cases hx with
  | mk c p vv hbd hp hv =>
  obtain ⟨ck, pa, pl, pc, key, i, j, n, ⟨vk, vn, vs, vla, vll, vlc, voa, vol, voc⟩, s⟩ := c
  dsimp only at hp hv ⊢
  have HV : Hid (∀ W, Below B w W → IsVal W B vv ⟨vk, vn, vs, vla, vll, vlc, voa, vol, voc⟩) := fun W hW => hv.keep hW
  have HP := Lib.hid hp; have H0 := Lib.hid h
  have k0 := hbd.k0; have k1 := hbd.k1; have c1 := hp.cap; have c2 := hp.max; have c3 := hp.few
  dsimp only at k0 k1
  have el := hp.len
  have wx := WG.start h #[.int .u8 ck, .slice pa pl pc, .string key, .int .i64 i, .int .i64 j, .int .i64 n, .int .u8 vk, .int .i64 vn, .string vs, .slice vla vll vlc, .slice voa vol voc, .string s] 70
  have hB := h.base; have hlt := h.lt
  have he : encC ⟨ck, p, key, i, j, n, vv, s⟩ = be (ck % 18446744073709551616).toNat 1 ++ be p.length 1 ++ encP p ++ encT ⟨ck, p, key, i, j, n, vv, s⟩ := rfl
  have ell : be ((pl : Int) % 18446744073709551616).toNat 1 = be p.length 1 := by rw [len_mod _ (by omega), el]
  have ELL := Lib.hid ell
  have EL := Lib.hid el
  rw [he] at hsz ⊢
  simp only [List.length_append, be_length] at hsz
  obtain ⟨T, hT⟩ : ∃ T, encT ⟨ck, p, key, i, j, n, vv, s⟩ = T := ⟨_, rfl⟩
  rw [hT] at hsz ⊢
  have HT := Lib.hid hT
  clear hT he hv hp hbd h el ell
  have u0 : IntKind.u64.wrap ck = ck := u64_id _ (by omega) (by omega)
  have u3 : IntKind.u64.wrap (pl : Int) = (pl : Int) := u64_id _ (by omega) (by omega)
  have u1 : IntKind.u64.wrap i = i % 18446744073709551616 := u64_emod _
  have u2 : IntKind.u64.wrap j = j % 18446744073709551616 := u64_emod _
  have u4 : IntKind.u64.wrap n = n % 18446744073709551616 := u64_emod _
  go_enter Tryd.func54, Tryd.ntmps54
  go_wp2_with (first | (go_at_call 53; (with_reducible refine (number1_any _ ?_ ?_ _ B wb _ _ wx.wrt ?_).mono ?_); (focus omega); (focus omega); (focus ((first | omega | (simp only [List.length_append]; omega) | (simp only [List.length_append, be_length]; omega)))); rintro e w2 ⟨rfl, v2, hr2, hs2⟩; replace wx := wx.next hr2 hs2; have y0 := wx.at_ 0 _ rfl; have y1 := wx.at_ 1 _ rfl; have y2 := wx.at_ 2 _ rfl; have y3 := wx.at_ 3 _ rfl; have y4 := wx.at_ 4 _ rfl; have y5 := wx.at_ 5 _ rfl; have y6 := wx.at_ 6 _ rfl; have y7 := wx.at_ 7 _ rfl; have y8 := wx.at_ 8 _ rfl; have y9 := wx.at_ 9 _ rfl; have y10 := wx.at_ 10 _ rfl; have y11 := wx.at_ 11 _ rfl) | (go_at_call 53; (with_reducible refine (number1_any _ ?_ ?_ _ B wb _ _ wx.wrt ?_).mono ?_); (focus omega); (focus omega); (focus ((first | omega | (simp only [List.length_append]; omega) | (simp only [List.length_append, be_length]; omega)))); rintro e w2 ⟨rfl, v2, hr2, hs2⟩; replace wx := wx.next hr2 hs2; have y0 := wx.at_ 0 _ rfl; have y1 := wx.at_ 1 _ rfl; have y2 := wx.at_ 2 _ rfl; have y3 := wx.at_ 3 _ rfl; have y4 := wx.at_ 4 _ rfl; have y5 := wx.at_ 5 _ rfl; have y6 := wx.at_ 6 _ rfl; have y7 := wx.at_ 7 _ rfl; have y8 := wx.at_ 8 _ rfl; have y9 := wx.at_ 9 _ rfl; have y10 := wx.at_ 10 _ rfl; have y11 := wx.at_ 11 _ rfl))
  obtain ⟨PRE, hPRE⟩ : ∃ PRE, bs ++ be (ck % 18446744073709551616).toNat 1 ++ be ((pl : Int) % 18446744073709551616).toNat 1 = PRE := ⟨_, rfl⟩
  rw [hPRE] at wx
  have hPL : PRE.length + (encP p).length + T.length ≤ 140737488355328 := by rw [← hPRE, List.length_append, List.length_append, be_length, be_length]; omega
  have hPE : PRE = bs ++ be (ck % 18446744073709551616).toNat 1 ++ be p.length 1 := by rw [← hPRE, ELL.out]
  have HPE := Lib.hid hPE
  clear hr2 hs2 hPRE hPE y0 y1 y2 y3 y4 y5 y6 y7 y8 y9 y10 y11
  go_loopw [4] (fun ii wr => ∃ (k : Nat) (u : Value), k ≤ pl ∧ ii = .int .i64 k ∧ WG w wr B wb w.heap.size v u (PRE ++ encP (p.take k)) [.int .u8 ck, .slice pa pl pc, .string key, .int .i64 i, .int .i64 j, .int .i64 n, .int .u8 vk, .int .i64 vn, .string vs, .slice vla vll vlc, .slice voa vol voc, .string s]) (fun ii _ => pl - (intOf ii).toNat)
  case atStart => exact ⟨0, v2, Nat.zero_le _, rfl, by simpa [encP] using wx⟩
  case round =>
    clear wx
    obtain ⟨k, u, hk, rfl, wx⟩ := hrel
    have y0 := wx.at_ 0 _ rfl; have y1 := wx.at_ 1 _ rfl; have y2 := wx.at_ 2 _ rfl; have y3 := wx.at_ 3 _ rfl; have y4 := wx.at_ 4 _ rfl; have y5 := wx.at_ 5 _ rfl; have y6 := wx.at_ 6 _ rfl; have y7 := wx.at_ 7 _ rfl; have y8 := wx.at_ 8 _ rfl; have y9 := wx.at_ 9 _ rfl; have y10 := wx.at_ 10 _ rfl; have y11 := wx.at_ 11 _ rfl
    by_cases hlt2 : k < pl
    · obtain ⟨b, o', kl, rfl, hb, x1, xb⟩ := HP.out.get hlt2
      have hbW := H0.out.keeps wx.st
      have x1 := x1.keep hbW hb
      have r0 := x1.c0; have r1 := x1.c1; have r2 := x1.c2
      have hle := encP_le p (k + 1)
      have ht := encP_take p k kl
      have hlen : (PRE ++ encP (p.take k)).length + (encSt p[k]).length ≤ 140737488355328 := by
        rw [ht, List.length_append] at hle; rw [List.length_append]; omega
      have X1 : Hid (∀ W, Below B w W → StepAt W b (o' + k * 3) p[k]) := by
        intro W hW
        obtain ⟨b2, o2, kl2, e2, hb2, x2, _⟩ := HP.out.get hlt2
        injection e2 with e2; injection e2 with e3 e4; subst e3 e4; exact x2.keep hW hb2
      have HE : Hid (∀ l, PRE ++ encP (p.take k) ++ l = PRE ++ encP (p.take (k + 1)) ↔ l = encSt p[k]) := by
        intro l; rw [ht, ← List.append_assoc]; exact List.append_cancel_left_eq _ _ _ |>.to_iff
      obtain ⟨PK, hPK⟩ : ∃ PK, PRE ++ encP (p.take k) = PK := ⟨_, rfl⟩
      rw [hPK] at wx hlen HE
      have u5 : IntKind.u64.wrap p[k].i = p[k].i % 18446744073709551616 := u64_emod _
      cases hl : p[k].list with
      | true =>
        have hes : encSt p[k] = be ((1 : Int) % 18446744073709551616).toNat 1 ++ be (p[k].i % 18446744073709551616).toNat 8 := by rw [encSt, hl]; rfl
        rw [hes] at hlen HE
        rw [hl] at r0
        simp only [List.length_append, be_length] at hlen
        have HL2 := Lib.hid hl
        clear hle ht hbW xb hPK hes hl x1
        go_wp2_with (first | (go_at_call 53; (with_reducible refine (number1_any _ ?_ ?_ _ B wb _ _ wx.wrt ?_).mono ?_); (focus omega); (focus omega); (focus ((first | omega | (simp only [List.length_append]; omega) | (simp only [List.length_append, be_length]; omega)))); rintro e w2 ⟨rfl, v2, hr2, hs2⟩; replace wx := wx.next hr2 hs2; have y0 := wx.at_ 0 _ rfl; have y1 := wx.at_ 1 _ rfl; have y2 := wx.at_ 2 _ rfl; have y3 := wx.at_ 3 _ rfl; have y4 := wx.at_ 4 _ rfl; have y5 := wx.at_ 5 _ rfl; have y6 := wx.at_ 6 _ rfl; have y7 := wx.at_ 7 _ rfl; have y8 := wx.at_ 8 _ rfl; have y9 := wx.at_ 9 _ rfl; have y10 := wx.at_ 10 _ rfl; have y11 := wx.at_ 11 _ rfl; have x1 := X1.out _ (H0.out.keeps wx.st); have r1 := x1.c1; have r2 := x1.c2; have r0 : w2.cell? ⟨b, o' + k * 3, none⟩ = some (.bool true) := by have := x1.c0; rwa [HL2.out] at this) | (go_at_call 53; (with_reducible refine (number8m_any _ _ B wb _ _ wx.wrt ?_).mono ?_); (focus ((first | omega | (simp only [List.length_append]; omega) | (simp only [List.length_append, be_length]; omega)))); rintro e w2 ⟨rfl, v2, hr2, hs2⟩; replace wx := wx.next hr2 hs2; have y0 := wx.at_ 0 _ rfl; have y1 := wx.at_ 1 _ rfl; have y2 := wx.at_ 2 _ rfl; have y3 := wx.at_ 3 _ rfl; have y4 := wx.at_ 4 _ rfl; have y5 := wx.at_ 5 _ rfl; have y6 := wx.at_ 6 _ rfl; have y7 := wx.at_ 7 _ rfl; have y8 := wx.at_ 8 _ rfl; have y9 := wx.at_ 9 _ rfl; have y10 := wx.at_ 10 _ rfl; have y11 := wx.at_ 11 _ rfl; have x1 := X1.out _ (H0.out.keeps wx.st); have r1 := x1.c1; have r2 := x1.c2; have r0 : w2.cell? ⟨b, o' + k * 3, none⟩ = some (.bool true) := by have := x1.c0; rwa [HL2.out] at this))
        go_roundw
        case rel => exact ⟨k + 1, v2, by omega, by go_num, wx.eqb (by rw [List.append_assoc]; exact (HE.out _).2 rfl)⟩
        case measure => simp [intOf]; omega
      | false =>
        have hes : encSt p[k] = be ((0 : Int) % 18446744073709551616).toNat 1 ++ encS p[k].key := by rw [encSt, hl]; rfl
        rw [hes] at hlen HE
        rw [hl] at r0
        simp only [List.length_append, be_length] at hlen
        have HL2 := Lib.hid hl
        clear hle ht hbW xb hPK hes hl x1
        go_wp2_with (first | (go_at_call 53; (with_reducible refine (number1_any _ ?_ ?_ _ B wb _ _ wx.wrt ?_).mono ?_); (focus omega); (focus omega); (focus ((first | omega | (simp only [List.length_append]; omega) | (simp only [List.length_append, be_length]; omega)))); rintro e w2 ⟨rfl, v2, hr2, hs2⟩; replace wx := wx.next hr2 hs2; have y0 := wx.at_ 0 _ rfl; have y1 := wx.at_ 1 _ rfl; have y2 := wx.at_ 2 _ rfl; have y3 := wx.at_ 3 _ rfl; have y4 := wx.at_ 4 _ rfl; have y5 := wx.at_ 5 _ rfl; have y6 := wx.at_ 6 _ rfl; have y7 := wx.at_ 7 _ rfl; have y8 := wx.at_ 8 _ rfl; have y9 := wx.at_ 9 _ rfl; have y10 := wx.at_ 10 _ rfl; have y11 := wx.at_ 11 _ rfl; have x1 := X1.out _ (H0.out.keeps wx.st); have r1 := x1.c1; have r2 := x1.c2; have r0 : w2.cell? ⟨b, o' + k * 3, none⟩ = some (.bool false) := by have := x1.c0; rwa [HL2.out] at this) | (go_at_call 76; (with_reducible refine (refText_any _ _ B wb _ _ wx.wrt ?_).mono ?_); (focus ((first | omega | (simp only [List.length_append]; omega) | (simp only [List.length_append, be_length]; omega)))); rintro e w2 ⟨rfl, v2, hr2, hs2⟩; replace wx := wx.next hr2 hs2; have y0 := wx.at_ 0 _ rfl; have y1 := wx.at_ 1 _ rfl; have y2 := wx.at_ 2 _ rfl; have y3 := wx.at_ 3 _ rfl; have y4 := wx.at_ 4 _ rfl; have y5 := wx.at_ 5 _ rfl; have y6 := wx.at_ 6 _ rfl; have y7 := wx.at_ 7 _ rfl; have y8 := wx.at_ 8 _ rfl; have y9 := wx.at_ 9 _ rfl; have y10 := wx.at_ 10 _ rfl; have y11 := wx.at_ 11 _ rfl; have x1 := X1.out _ (H0.out.keeps wx.st); have r1 := x1.c1; have r2 := x1.c2; have r0 : w2.cell? ⟨b, o' + k * 3, none⟩ = some (.bool false) := by have := x1.c0; rwa [HL2.out] at this))
        go_roundw
        case rel => exact ⟨k + 1, v2, by omega, by go_num, wx.eqb (by rw [List.append_assoc]; exact (HE.out _).2 rfl)⟩
        case measure => simp [intOf]; omega
    · have hk2 : k = pl := by omega
      subst hk2
      have hq := wx.eqb (bs' := PRE ++ encP p) (by rw [List.take_of_length_le (by have := EL.out; omega)])
      clear wx
      have wx := hq
      clear hq
      obtain ⟨Q, hQ⟩ : ∃ Q, PRE ++ encP p = Q := ⟨_, rfl⟩
      rw [hQ] at wx
      have hQL : Q.length + T.length ≤ 140737488355328 := by rw [← hQ, List.length_append]; omega
      have HQ : Hid (bs ++ (be (ck % 18446744073709551616).toNat 1 ++ be p.length 1 ++ encP p ++ T) = Q ++ T) := by
        unfold Hid; rw [← hQ, HPE.out]; simp only [List.append_assoc]
      clear hQ hPL hsz
      by_cases e1 : ck = 1
      case pos =>
        subst e1
        have hTk : T = be (n % 18446744073709551616).toNat 8 := by rw [← HT.out]; simp [encT, saysB, hasB]
        rw [hTk] at hQL
        have HTK := Lib.hid hTk
        simp only [be_length] at hQL
        have HS : Hid (∀ b : Nat, b ≠ 46 → hasB (says10B 1) b = hasB (saysB 1) b) := fun b hb => says10_has _ b hb
        obtain ⟨SB, hSB⟩ : ∃ SB, says10B 1 = SB := ⟨_, rfl⟩
        have SZ10 : Hid (SB.size ≤ 2) := by
          unfold Hid; rw [← hSB]; decide
        have s75 : hasB SB 75 = false := by rw [← hSB, HS.out _ (by omega)]; rfl
        have s73 : hasB SB 73 = false := by rw [← hSB, HS.out _ (by omega)]; rfl
        have s74 : hasB SB 74 = false := by rw [← hSB, HS.out _ (by omega)]; rfl
        have s78 : hasB SB 78 = true := by rw [← hSB, HS.out _ (by omega)]; rfl
        have s86 : hasB SB 86 = false := by rw [← hSB, HS.out _ (by omega)]; rfl
        have s83 : hasB SB 83 = false := by rw [← hSB, HS.out _ (by omega)]; rfl
        have HSB := Lib.hid hSB
        clear hSB
        clear hTk
        go_wp2_with (first | (go_at_call 51; (with_reducible refine (says10_any _ _).mono ?_); rintro e w2 ⟨rfl, hb2⟩; rw [HSB.out]; replace wx := wx.behind hb2; have y0 := wx.at_ 0 _ rfl; have y1 := wx.at_ 1 _ rfl; have y2 := wx.at_ 2 _ rfl; have y3 := wx.at_ 3 _ rfl; have y4 := wx.at_ 4 _ rfl; have y5 := wx.at_ 5 _ rfl; have y6 := wx.at_ 6 _ rfl; have y7 := wx.at_ 7 _ rfl; have y8 := wx.at_ 8 _ rfl; have y9 := wx.at_ 9 _ rfl; have y10 := wx.at_ 10 _ rfl; have y11 := wx.at_ 11 _ rfl) | (go_at_call 52; (with_reducible refine (in10_75_any _ _ ?_).mono ?_); (focus (have := SZ10.out; omega)); rintro e w2 ⟨rfl, hb2⟩; replace wx := wx.behind hb2; have y0 := wx.at_ 0 _ rfl; have y1 := wx.at_ 1 _ rfl; have y2 := wx.at_ 2 _ rfl; have y3 := wx.at_ 3 _ rfl; have y4 := wx.at_ 4 _ rfl; have y5 := wx.at_ 5 _ rfl; have y6 := wx.at_ 6 _ rfl; have y7 := wx.at_ 7 _ rfl; have y8 := wx.at_ 8 _ rfl; have y9 := wx.at_ 9 _ rfl; have y10 := wx.at_ 10 _ rfl; have y11 := wx.at_ 11 _ rfl) | (go_at_call 52; (with_reducible refine (in10_73_any _ _ ?_).mono ?_); (focus (have := SZ10.out; omega)); rintro e w2 ⟨rfl, hb2⟩; replace wx := wx.behind hb2; have y0 := wx.at_ 0 _ rfl; have y1 := wx.at_ 1 _ rfl; have y2 := wx.at_ 2 _ rfl; have y3 := wx.at_ 3 _ rfl; have y4 := wx.at_ 4 _ rfl; have y5 := wx.at_ 5 _ rfl; have y6 := wx.at_ 6 _ rfl; have y7 := wx.at_ 7 _ rfl; have y8 := wx.at_ 8 _ rfl; have y9 := wx.at_ 9 _ rfl; have y10 := wx.at_ 10 _ rfl; have y11 := wx.at_ 11 _ rfl) | (go_at_call 52; (with_reducible refine (in10_74_any _ _ ?_).mono ?_); (focus (have := SZ10.out; omega)); rintro e w2 ⟨rfl, hb2⟩; replace wx := wx.behind hb2; have y0 := wx.at_ 0 _ rfl; have y1 := wx.at_ 1 _ rfl; have y2 := wx.at_ 2 _ rfl; have y3 := wx.at_ 3 _ rfl; have y4 := wx.at_ 4 _ rfl; have y5 := wx.at_ 5 _ rfl; have y6 := wx.at_ 6 _ rfl; have y7 := wx.at_ 7 _ rfl; have y8 := wx.at_ 8 _ rfl; have y9 := wx.at_ 9 _ rfl; have y10 := wx.at_ 10 _ rfl; have y11 := wx.at_ 11 _ rfl) | (go_at_call 52; (with_reducible refine (in10_78_any _ _ ?_).mono ?_); (focus (have := SZ10.out; omega)); rintro e w2 ⟨rfl, hb2⟩; replace wx := wx.behind hb2; have y0 := wx.at_ 0 _ rfl; have y1 := wx.at_ 1 _ rfl; have y2 := wx.at_ 2 _ rfl; have y3 := wx.at_ 3 _ rfl; have y4 := wx.at_ 4 _ rfl; have y5 := wx.at_ 5 _ rfl; have y6 := wx.at_ 6 _ rfl; have y7 := wx.at_ 7 _ rfl; have y8 := wx.at_ 8 _ rfl; have y9 := wx.at_ 9 _ rfl; have y10 := wx.at_ 10 _ rfl; have y11 := wx.at_ 11 _ rfl) | (go_at_call 52; (with_reducible refine (in10_86_any _ _ ?_).mono ?_); (focus (have := SZ10.out; omega)); rintro e w2 ⟨rfl, hb2⟩; replace wx := wx.behind hb2; have y0 := wx.at_ 0 _ rfl; have y1 := wx.at_ 1 _ rfl; have y2 := wx.at_ 2 _ rfl; have y3 := wx.at_ 3 _ rfl; have y4 := wx.at_ 4 _ rfl; have y5 := wx.at_ 5 _ rfl; have y6 := wx.at_ 6 _ rfl; have y7 := wx.at_ 7 _ rfl; have y8 := wx.at_ 8 _ rfl; have y9 := wx.at_ 9 _ rfl; have y10 := wx.at_ 10 _ rfl; have y11 := wx.at_ 11 _ rfl) | (go_at_call 52; (with_reducible refine (in10_83_any _ _ ?_).mono ?_); (focus (have := SZ10.out; omega)); rintro e w2 ⟨rfl, hb2⟩; replace wx := wx.behind hb2; have y0 := wx.at_ 0 _ rfl; have y1 := wx.at_ 1 _ rfl; have y2 := wx.at_ 2 _ rfl; have y3 := wx.at_ 3 _ rfl; have y4 := wx.at_ 4 _ rfl; have y5 := wx.at_ 5 _ rfl; have y6 := wx.at_ 6 _ rfl; have y7 := wx.at_ 7 _ rfl; have y8 := wx.at_ 8 _ rfl; have y9 := wx.at_ 9 _ rfl; have y10 := wx.at_ 10 _ rfl; have y11 := wx.at_ 11 _ rfl) | (go_at_call 53; (with_reducible refine (number8m_any _ _ B wb _ _ wx.wrt ?_).mono ?_); (focus ((first | omega | (simp only [List.length_append]; omega) | (simp only [List.length_append, be_length]; omega)))); rintro e w2 ⟨rfl, v2, hr2, hs2⟩; replace wx := wx.next hr2 hs2; have y0 := wx.at_ 0 _ rfl; have y1 := wx.at_ 1 _ rfl; have y2 := wx.at_ 2 _ rfl; have y3 := wx.at_ 3 _ rfl; have y4 := wx.at_ 4 _ rfl; have y5 := wx.at_ 5 _ rfl; have y6 := wx.at_ 6 _ rfl; have y7 := wx.at_ 7 _ rfl; have y8 := wx.at_ 8 _ rfl; have y9 := wx.at_ 9 _ rfl; have y10 := wx.at_ 10 _ rfl; have y11 := wx.at_ 11 _ rfl))
        go_returns
        exact ⟨rfl, _, by rw [HQ.out, HTK.out]; have := wx.wrt; first | exact this | (simp only [List.append_assoc] at this ⊢; exact this) | (simp only [List.append_nil] at this ⊢; exact this), wx.st⟩
      have f1 : (ck == 1) = false := by simp [e1]
      by_cases e2 : ck = 2
      case pos =>
        subst e2
        have hTk : T = encS key ++ encV vv := by rw [← HT.out]; simp [encT, saysB, hasB]
        rw [hTk] at hQL
        have HTK := Lib.hid hTk
        simp only [List.length_append] at hQL
        have HS : Hid (∀ b : Nat, b ≠ 46 → hasB (says10B 2) b = hasB (saysB 2) b) := fun b hb => says10_has _ b hb
        obtain ⟨SB, hSB⟩ : ∃ SB, says10B 2 = SB := ⟨_, rfl⟩
        have SZ10 : Hid (SB.size ≤ 2) := by
          unfold Hid; rw [← hSB]; decide
        have s75 : hasB SB 75 = true := by rw [← hSB, HS.out _ (by omega)]; rfl
        have s73 : hasB SB 73 = false := by rw [← hSB, HS.out _ (by omega)]; rfl
        have s74 : hasB SB 74 = false := by rw [← hSB, HS.out _ (by omega)]; rfl
        have s78 : hasB SB 78 = false := by rw [← hSB, HS.out _ (by omega)]; rfl
        have s86 : hasB SB 86 = true := by rw [← hSB, HS.out _ (by omega)]; rfl
        have s83 : hasB SB 83 = false := by rw [← hSB, HS.out _ (by omega)]; rfl
        have HSB := Lib.hid hSB
        clear hSB
        clear hTk
        go_wp2_with (first | (go_at_call 51; (with_reducible refine (says10_any _ _).mono ?_); rintro e w2 ⟨rfl, hb2⟩; rw [HSB.out]; replace wx := wx.behind hb2; have y0 := wx.at_ 0 _ rfl; have y1 := wx.at_ 1 _ rfl; have y2 := wx.at_ 2 _ rfl; have y3 := wx.at_ 3 _ rfl; have y4 := wx.at_ 4 _ rfl; have y5 := wx.at_ 5 _ rfl; have y6 := wx.at_ 6 _ rfl; have y7 := wx.at_ 7 _ rfl; have y8 := wx.at_ 8 _ rfl; have y9 := wx.at_ 9 _ rfl; have y10 := wx.at_ 10 _ rfl; have y11 := wx.at_ 11 _ rfl) | (go_at_call 52; (with_reducible refine (in10_75_any _ _ ?_).mono ?_); (focus (have := SZ10.out; omega)); rintro e w2 ⟨rfl, hb2⟩; replace wx := wx.behind hb2; have y0 := wx.at_ 0 _ rfl; have y1 := wx.at_ 1 _ rfl; have y2 := wx.at_ 2 _ rfl; have y3 := wx.at_ 3 _ rfl; have y4 := wx.at_ 4 _ rfl; have y5 := wx.at_ 5 _ rfl; have y6 := wx.at_ 6 _ rfl; have y7 := wx.at_ 7 _ rfl; have y8 := wx.at_ 8 _ rfl; have y9 := wx.at_ 9 _ rfl; have y10 := wx.at_ 10 _ rfl; have y11 := wx.at_ 11 _ rfl) | (go_at_call 52; (with_reducible refine (in10_73_any _ _ ?_).mono ?_); (focus (have := SZ10.out; omega)); rintro e w2 ⟨rfl, hb2⟩; replace wx := wx.behind hb2; have y0 := wx.at_ 0 _ rfl; have y1 := wx.at_ 1 _ rfl; have y2 := wx.at_ 2 _ rfl; have y3 := wx.at_ 3 _ rfl; have y4 := wx.at_ 4 _ rfl; have y5 := wx.at_ 5 _ rfl; have y6 := wx.at_ 6 _ rfl; have y7 := wx.at_ 7 _ rfl; have y8 := wx.at_ 8 _ rfl; have y9 := wx.at_ 9 _ rfl; have y10 := wx.at_ 10 _ rfl; have y11 := wx.at_ 11 _ rfl) | (go_at_call 52; (with_reducible refine (in10_74_any _ _ ?_).mono ?_); (focus (have := SZ10.out; omega)); rintro e w2 ⟨rfl, hb2⟩; replace wx := wx.behind hb2; have y0 := wx.at_ 0 _ rfl; have y1 := wx.at_ 1 _ rfl; have y2 := wx.at_ 2 _ rfl; have y3 := wx.at_ 3 _ rfl; have y4 := wx.at_ 4 _ rfl; have y5 := wx.at_ 5 _ rfl; have y6 := wx.at_ 6 _ rfl; have y7 := wx.at_ 7 _ rfl; have y8 := wx.at_ 8 _ rfl; have y9 := wx.at_ 9 _ rfl; have y10 := wx.at_ 10 _ rfl; have y11 := wx.at_ 11 _ rfl) | (go_at_call 52; (with_reducible refine (in10_78_any _ _ ?_).mono ?_); (focus (have := SZ10.out; omega)); rintro e w2 ⟨rfl, hb2⟩; replace wx := wx.behind hb2; have y0 := wx.at_ 0 _ rfl; have y1 := wx.at_ 1 _ rfl; have y2 := wx.at_ 2 _ rfl; have y3 := wx.at_ 3 _ rfl; have y4 := wx.at_ 4 _ rfl; have y5 := wx.at_ 5 _ rfl; have y6 := wx.at_ 6 _ rfl; have y7 := wx.at_ 7 _ rfl; have y8 := wx.at_ 8 _ rfl; have y9 := wx.at_ 9 _ rfl; have y10 := wx.at_ 10 _ rfl; have y11 := wx.at_ 11 _ rfl) | (go_at_call 52; (with_reducible refine (in10_86_any _ _ ?_).mono ?_); (focus (have := SZ10.out; omega)); rintro e w2 ⟨rfl, hb2⟩; replace wx := wx.behind hb2; have y0 := wx.at_ 0 _ rfl; have y1 := wx.at_ 1 _ rfl; have y2 := wx.at_ 2 _ rfl; have y3 := wx.at_ 3 _ rfl; have y4 := wx.at_ 4 _ rfl; have y5 := wx.at_ 5 _ rfl; have y6 := wx.at_ 6 _ rfl; have y7 := wx.at_ 7 _ rfl; have y8 := wx.at_ 8 _ rfl; have y9 := wx.at_ 9 _ rfl; have y10 := wx.at_ 10 _ rfl; have y11 := wx.at_ 11 _ rfl) | (go_at_call 52; (with_reducible refine (in10_83_any _ _ ?_).mono ?_); (focus (have := SZ10.out; omega)); rintro e w2 ⟨rfl, hb2⟩; replace wx := wx.behind hb2; have y0 := wx.at_ 0 _ rfl; have y1 := wx.at_ 1 _ rfl; have y2 := wx.at_ 2 _ rfl; have y3 := wx.at_ 3 _ rfl; have y4 := wx.at_ 4 _ rfl; have y5 := wx.at_ 5 _ rfl; have y6 := wx.at_ 6 _ rfl; have y7 := wx.at_ 7 _ rfl; have y8 := wx.at_ 8 _ rfl; have y9 := wx.at_ 9 _ rfl; have y10 := wx.at_ 10 _ rfl; have y11 := wx.at_ 11 _ rfl) | (go_at_call 76; (with_reducible refine (refText_any _ _ B wb _ _ wx.wrt ?_).mono ?_); (focus ((first | omega | (simp only [List.length_append]; omega) | (simp only [List.length_append, be_length]; omega)))); rintro e w2 ⟨rfl, v2, hr2, hs2⟩; replace wx := wx.next hr2 hs2; have y0 := wx.at_ 0 _ rfl; have y1 := wx.at_ 1 _ rfl; have y2 := wx.at_ 2 _ rfl; have y3 := wx.at_ 3 _ rfl; have y4 := wx.at_ 4 _ rfl; have y5 := wx.at_ 5 _ rfl; have y6 := wx.at_ 6 _ rfl; have y7 := wx.at_ 7 _ rfl; have y8 := wx.at_ 8 _ rfl; have y9 := wx.at_ 9 _ rfl; have y10 := wx.at_ 10 _ rfl; have y11 := wx.at_ 11 _ rfl) | (go_at_call 42; (with_reducible refine (refValueX_any vv vk vn vs vla vll vlc voa vol voc _ B wb _ _ wx.wrt (HV.out _ (H0.out.keeps wx.st)) ?_).mono ?_); (focus ((first | omega | (simp only [List.length_append]; omega) | (simp only [List.length_append, be_length]; omega)))); rintro e w2 ⟨rfl, v2, hr2, hs2⟩; replace wx := wx.next hr2 hs2; have y0 := wx.at_ 0 _ rfl; have y1 := wx.at_ 1 _ rfl; have y2 := wx.at_ 2 _ rfl; have y3 := wx.at_ 3 _ rfl; have y4 := wx.at_ 4 _ rfl; have y5 := wx.at_ 5 _ rfl; have y6 := wx.at_ 6 _ rfl; have y7 := wx.at_ 7 _ rfl; have y8 := wx.at_ 8 _ rfl; have y9 := wx.at_ 9 _ rfl; have y10 := wx.at_ 10 _ rfl; have y11 := wx.at_ 11 _ rfl))
        go_returns
        exact ⟨rfl, _, by rw [HQ.out, HTK.out]; have := wx.wrt; first | exact this | (simp only [List.append_assoc] at this ⊢; exact this) | (simp only [List.append_nil] at this ⊢; exact this), wx.st⟩
      have f2 : (ck == 2) = false := by simp [e2]
      by_cases e3 : ck = 3
      case pos =>
        subst e3
        have hTk : T = encS key := by rw [← HT.out]; simp [encT, saysB, hasB]
        rw [hTk] at hQL
        have HTK := Lib.hid hTk
        have HS : Hid (∀ b : Nat, b ≠ 46 → hasB (says10B 3) b = hasB (saysB 3) b) := fun b hb => says10_has _ b hb
        obtain ⟨SB, hSB⟩ : ∃ SB, says10B 3 = SB := ⟨_, rfl⟩
        have SZ10 : Hid (SB.size ≤ 2) := by
          unfold Hid; rw [← hSB]; decide
        have s75 : hasB SB 75 = true := by rw [← hSB, HS.out _ (by omega)]; rfl
        have s73 : hasB SB 73 = false := by rw [← hSB, HS.out _ (by omega)]; rfl
        have s74 : hasB SB 74 = false := by rw [← hSB, HS.out _ (by omega)]; rfl
        have s78 : hasB SB 78 = false := by rw [← hSB, HS.out _ (by omega)]; rfl
        have s86 : hasB SB 86 = false := by rw [← hSB, HS.out _ (by omega)]; rfl
        have s83 : hasB SB 83 = false := by rw [← hSB, HS.out _ (by omega)]; rfl
        have HSB := Lib.hid hSB
        clear hSB
        clear hTk
        go_wp2_with (first | (go_at_call 51; (with_reducible refine (says10_any _ _).mono ?_); rintro e w2 ⟨rfl, hb2⟩; rw [HSB.out]; replace wx := wx.behind hb2; have y0 := wx.at_ 0 _ rfl; have y1 := wx.at_ 1 _ rfl; have y2 := wx.at_ 2 _ rfl; have y3 := wx.at_ 3 _ rfl; have y4 := wx.at_ 4 _ rfl; have y5 := wx.at_ 5 _ rfl; have y6 := wx.at_ 6 _ rfl; have y7 := wx.at_ 7 _ rfl; have y8 := wx.at_ 8 _ rfl; have y9 := wx.at_ 9 _ rfl; have y10 := wx.at_ 10 _ rfl; have y11 := wx.at_ 11 _ rfl) | (go_at_call 52; (with_reducible refine (in10_75_any _ _ ?_).mono ?_); (focus (have := SZ10.out; omega)); rintro e w2 ⟨rfl, hb2⟩; replace wx := wx.behind hb2; have y0 := wx.at_ 0 _ rfl; have y1 := wx.at_ 1 _ rfl; have y2 := wx.at_ 2 _ rfl; have y3 := wx.at_ 3 _ rfl; have y4 := wx.at_ 4 _ rfl; have y5 := wx.at_ 5 _ rfl; have y6 := wx.at_ 6 _ rfl; have y7 := wx.at_ 7 _ rfl; have y8 := wx.at_ 8 _ rfl; have y9 := wx.at_ 9 _ rfl; have y10 := wx.at_ 10 _ rfl; have y11 := wx.at_ 11 _ rfl) | (go_at_call 52; (with_reducible refine (in10_73_any _ _ ?_).mono ?_); (focus (have := SZ10.out; omega)); rintro e w2 ⟨rfl, hb2⟩; replace wx := wx.behind hb2; have y0 := wx.at_ 0 _ rfl; have y1 := wx.at_ 1 _ rfl; have y2 := wx.at_ 2 _ rfl; have y3 := wx.at_ 3 _ rfl; have y4 := wx.at_ 4 _ rfl; have y5 := wx.at_ 5 _ rfl; have y6 := wx.at_ 6 _ rfl; have y7 := wx.at_ 7 _ rfl; have y8 := wx.at_ 8 _ rfl; have y9 := wx.at_ 9 _ rfl; have y10 := wx.at_ 10 _ rfl; have y11 := wx.at_ 11 _ rfl) | (go_at_call 52; (with_reducible refine (in10_74_any _ _ ?_).mono ?_); (focus (have := SZ10.out; omega)); rintro e w2 ⟨rfl, hb2⟩; replace wx := wx.behind hb2; have y0 := wx.at_ 0 _ rfl; have y1 := wx.at_ 1 _ rfl; have y2 := wx.at_ 2 _ rfl; have y3 := wx.at_ 3 _ rfl; have y4 := wx.at_ 4 _ rfl; have y5 := wx.at_ 5 _ rfl; have y6 := wx.at_ 6 _ rfl; have y7 := wx.at_ 7 _ rfl; have y8 := wx.at_ 8 _ rfl; have y9 := wx.at_ 9 _ rfl; have y10 := wx.at_ 10 _ rfl; have y11 := wx.at_ 11 _ rfl) | (go_at_call 52; (with_reducible refine (in10_78_any _ _ ?_).mono ?_); (focus (have := SZ10.out; omega)); rintro e w2 ⟨rfl, hb2⟩; replace wx := wx.behind hb2; have y0 := wx.at_ 0 _ rfl; have y1 := wx.at_ 1 _ rfl; have y2 := wx.at_ 2 _ rfl; have y3 := wx.at_ 3 _ rfl; have y4 := wx.at_ 4 _ rfl; have y5 := wx.at_ 5 _ rfl; have y6 := wx.at_ 6 _ rfl; have y7 := wx.at_ 7 _ rfl; have y8 := wx.at_ 8 _ rfl; have y9 := wx.at_ 9 _ rfl; have y10 := wx.at_ 10 _ rfl; have y11 := wx.at_ 11 _ rfl) | (go_at_call 52; (with_reducible refine (in10_86_any _ _ ?_).mono ?_); (focus (have := SZ10.out; omega)); rintro e w2 ⟨rfl, hb2⟩; replace wx := wx.behind hb2; have y0 := wx.at_ 0 _ rfl; have y1 := wx.at_ 1 _ rfl; have y2 := wx.at_ 2 _ rfl; have y3 := wx.at_ 3 _ rfl; have y4 := wx.at_ 4 _ rfl; have y5 := wx.at_ 5 _ rfl; have y6 := wx.at_ 6 _ rfl; have y7 := wx.at_ 7 _ rfl; have y8 := wx.at_ 8 _ rfl; have y9 := wx.at_ 9 _ rfl; have y10 := wx.at_ 10 _ rfl; have y11 := wx.at_ 11 _ rfl) | (go_at_call 52; (with_reducible refine (in10_83_any _ _ ?_).mono ?_); (focus (have := SZ10.out; omega)); rintro e w2 ⟨rfl, hb2⟩; replace wx := wx.behind hb2; have y0 := wx.at_ 0 _ rfl; have y1 := wx.at_ 1 _ rfl; have y2 := wx.at_ 2 _ rfl; have y3 := wx.at_ 3 _ rfl; have y4 := wx.at_ 4 _ rfl; have y5 := wx.at_ 5 _ rfl; have y6 := wx.at_ 6 _ rfl; have y7 := wx.at_ 7 _ rfl; have y8 := wx.at_ 8 _ rfl; have y9 := wx.at_ 9 _ rfl; have y10 := wx.at_ 10 _ rfl; have y11 := wx.at_ 11 _ rfl) | (go_at_call 76; (with_reducible refine (refText_any _ _ B wb _ _ wx.wrt ?_).mono ?_); (focus ((first | omega | (simp only [List.length_append]; omega) | (simp only [List.length_append, be_length]; omega)))); rintro e w2 ⟨rfl, v2, hr2, hs2⟩; replace wx := wx.next hr2 hs2; have y0 := wx.at_ 0 _ rfl; have y1 := wx.at_ 1 _ rfl; have y2 := wx.at_ 2 _ rfl; have y3 := wx.at_ 3 _ rfl; have y4 := wx.at_ 4 _ rfl; have y5 := wx.at_ 5 _ rfl; have y6 := wx.at_ 6 _ rfl; have y7 := wx.at_ 7 _ rfl; have y8 := wx.at_ 8 _ rfl; have y9 := wx.at_ 9 _ rfl; have y10 := wx.at_ 10 _ rfl; have y11 := wx.at_ 11 _ rfl))
        go_returns
        exact ⟨rfl, _, by rw [HQ.out, HTK.out]; have := wx.wrt; first | exact this | (simp only [List.append_assoc] at this ⊢; exact this) | (simp only [List.append_nil] at this ⊢; exact this), wx.st⟩
      have f3 : (ck == 3) = false := by simp [e3]
      by_cases e4 : ck = 4
      case pos =>
        subst e4
        have hTk : T = be (i % 18446744073709551616).toNat 8 ++ encV vv := by rw [← HT.out]; simp [encT, saysB, hasB]
        rw [hTk] at hQL
        have HTK := Lib.hid hTk
        simp only [List.length_append, be_length] at hQL
        have HS : Hid (∀ b : Nat, b ≠ 46 → hasB (says10B 4) b = hasB (saysB 4) b) := fun b hb => says10_has _ b hb
        obtain ⟨SB, hSB⟩ : ∃ SB, says10B 4 = SB := ⟨_, rfl⟩
        have SZ10 : Hid (SB.size ≤ 2) := by
          unfold Hid; rw [← hSB]; decide
        have s75 : hasB SB 75 = false := by rw [← hSB, HS.out _ (by omega)]; rfl
        have s73 : hasB SB 73 = true := by rw [← hSB, HS.out _ (by omega)]; rfl
        have s74 : hasB SB 74 = false := by rw [← hSB, HS.out _ (by omega)]; rfl
        have s78 : hasB SB 78 = false := by rw [← hSB, HS.out _ (by omega)]; rfl
        have s86 : hasB SB 86 = true := by rw [← hSB, HS.out _ (by omega)]; rfl
        have s83 : hasB SB 83 = false := by rw [← hSB, HS.out _ (by omega)]; rfl
        have HSB := Lib.hid hSB
        clear hSB
        clear hTk
        go_wp2_with (first | (go_at_call 51; (with_reducible refine (says10_any _ _).mono ?_); rintro e w2 ⟨rfl, hb2⟩; rw [HSB.out]; replace wx := wx.behind hb2; have y0 := wx.at_ 0 _ rfl; have y1 := wx.at_ 1 _ rfl; have y2 := wx.at_ 2 _ rfl; have y3 := wx.at_ 3 _ rfl; have y4 := wx.at_ 4 _ rfl; have y5 := wx.at_ 5 _ rfl; have y6 := wx.at_ 6 _ rfl; have y7 := wx.at_ 7 _ rfl; have y8 := wx.at_ 8 _ rfl; have y9 := wx.at_ 9 _ rfl; have y10 := wx.at_ 10 _ rfl; have y11 := wx.at_ 11 _ rfl) | (go_at_call 52; (with_reducible refine (in10_75_any _ _ ?_).mono ?_); (focus (have := SZ10.out; omega)); rintro e w2 ⟨rfl, hb2⟩; replace wx := wx.behind hb2; have y0 := wx.at_ 0 _ rfl; have y1 := wx.at_ 1 _ rfl; have y2 := wx.at_ 2 _ rfl; have y3 := wx.at_ 3 _ rfl; have y4 := wx.at_ 4 _ rfl; have y5 := wx.at_ 5 _ rfl; have y6 := wx.at_ 6 _ rfl; have y7 := wx.at_ 7 _ rfl; have y8 := wx.at_ 8 _ rfl; have y9 := wx.at_ 9 _ rfl; have y10 := wx.at_ 10 _ rfl; have y11 := wx.at_ 11 _ rfl) | (go_at_call 52; (with_reducible refine (in10_73_any _ _ ?_).mono ?_); (focus (have := SZ10.out; omega)); rintro e w2 ⟨rfl, hb2⟩; replace wx := wx.behind hb2; have y0 := wx.at_ 0 _ rfl; have y1 := wx.at_ 1 _ rfl; have y2 := wx.at_ 2 _ rfl; have y3 := wx.at_ 3 _ rfl; have y4 := wx.at_ 4 _ rfl; have y5 := wx.at_ 5 _ rfl; have y6 := wx.at_ 6 _ rfl; have y7 := wx.at_ 7 _ rfl; have y8 := wx.at_ 8 _ rfl; have y9 := wx.at_ 9 _ rfl; have y10 := wx.at_ 10 _ rfl; have y11 := wx.at_ 11 _ rfl) | (go_at_call 52; (with_reducible refine (in10_74_any _ _ ?_).mono ?_); (focus (have := SZ10.out; omega)); rintro e w2 ⟨rfl, hb2⟩; replace wx := wx.behind hb2; have y0 := wx.at_ 0 _ rfl; have y1 := wx.at_ 1 _ rfl; have y2 := wx.at_ 2 _ rfl; have y3 := wx.at_ 3 _ rfl; have y4 := wx.at_ 4 _ rfl; have y5 := wx.at_ 5 _ rfl; have y6 := wx.at_ 6 _ rfl; have y7 := wx.at_ 7 _ rfl; have y8 := wx.at_ 8 _ rfl; have y9 := wx.at_ 9 _ rfl; have y10 := wx.at_ 10 _ rfl; have y11 := wx.at_ 11 _ rfl) | (go_at_call 52; (with_reducible refine (in10_78_any _ _ ?_).mono ?_); (focus (have := SZ10.out; omega)); rintro e w2 ⟨rfl, hb2⟩; replace wx := wx.behind hb2; have y0 := wx.at_ 0 _ rfl; have y1 := wx.at_ 1 _ rfl; have y2 := wx.at_ 2 _ rfl; have y3 := wx.at_ 3 _ rfl; have y4 := wx.at_ 4 _ rfl; have y5 := wx.at_ 5 _ rfl; have y6 := wx.at_ 6 _ rfl; have y7 := wx.at_ 7 _ rfl; have y8 := wx.at_ 8 _ rfl; have y9 := wx.at_ 9 _ rfl; have y10 := wx.at_ 10 _ rfl; have y11 := wx.at_ 11 _ rfl) | (go_at_call 52; (with_reducible refine (in10_86_any _ _ ?_).mono ?_); (focus (have := SZ10.out; omega)); rintro e w2 ⟨rfl, hb2⟩; replace wx := wx.behind hb2; have y0 := wx.at_ 0 _ rfl; have y1 := wx.at_ 1 _ rfl; have y2 := wx.at_ 2 _ rfl; have y3 := wx.at_ 3 _ rfl; have y4 := wx.at_ 4 _ rfl; have y5 := wx.at_ 5 _ rfl; have y6 := wx.at_ 6 _ rfl; have y7 := wx.at_ 7 _ rfl; have y8 := wx.at_ 8 _ rfl; have y9 := wx.at_ 9 _ rfl; have y10 := wx.at_ 10 _ rfl; have y11 := wx.at_ 11 _ rfl) | (go_at_call 52; (with_reducible refine (in10_83_any _ _ ?_).mono ?_); (focus (have := SZ10.out; omega)); rintro e w2 ⟨rfl, hb2⟩; replace wx := wx.behind hb2; have y0 := wx.at_ 0 _ rfl; have y1 := wx.at_ 1 _ rfl; have y2 := wx.at_ 2 _ rfl; have y3 := wx.at_ 3 _ rfl; have y4 := wx.at_ 4 _ rfl; have y5 := wx.at_ 5 _ rfl; have y6 := wx.at_ 6 _ rfl; have y7 := wx.at_ 7 _ rfl; have y8 := wx.at_ 8 _ rfl; have y9 := wx.at_ 9 _ rfl; have y10 := wx.at_ 10 _ rfl; have y11 := wx.at_ 11 _ rfl) | (go_at_call 53; (with_reducible refine (number8m_any _ _ B wb _ _ wx.wrt ?_).mono ?_); (focus ((first | omega | (simp only [List.length_append]; omega) | (simp only [List.length_append, be_length]; omega)))); rintro e w2 ⟨rfl, v2, hr2, hs2⟩; replace wx := wx.next hr2 hs2; have y0 := wx.at_ 0 _ rfl; have y1 := wx.at_ 1 _ rfl; have y2 := wx.at_ 2 _ rfl; have y3 := wx.at_ 3 _ rfl; have y4 := wx.at_ 4 _ rfl; have y5 := wx.at_ 5 _ rfl; have y6 := wx.at_ 6 _ rfl; have y7 := wx.at_ 7 _ rfl; have y8 := wx.at_ 8 _ rfl; have y9 := wx.at_ 9 _ rfl; have y10 := wx.at_ 10 _ rfl; have y11 := wx.at_ 11 _ rfl) | (go_at_call 42; (with_reducible refine (refValueX_any vv vk vn vs vla vll vlc voa vol voc _ B wb _ _ wx.wrt (HV.out _ (H0.out.keeps wx.st)) ?_).mono ?_); (focus ((first | omega | (simp only [List.length_append]; omega) | (simp only [List.length_append, be_length]; omega)))); rintro e w2 ⟨rfl, v2, hr2, hs2⟩; replace wx := wx.next hr2 hs2; have y0 := wx.at_ 0 _ rfl; have y1 := wx.at_ 1 _ rfl; have y2 := wx.at_ 2 _ rfl; have y3 := wx.at_ 3 _ rfl; have y4 := wx.at_ 4 _ rfl; have y5 := wx.at_ 5 _ rfl; have y6 := wx.at_ 6 _ rfl; have y7 := wx.at_ 7 _ rfl; have y8 := wx.at_ 8 _ rfl; have y9 := wx.at_ 9 _ rfl; have y10 := wx.at_ 10 _ rfl; have y11 := wx.at_ 11 _ rfl))
        go_returns
        exact ⟨rfl, _, by rw [HQ.out, HTK.out]; have := wx.wrt; first | exact this | (simp only [List.append_assoc] at this ⊢; exact this) | (simp only [List.append_nil] at this ⊢; exact this), wx.st⟩
      have f4 : (ck == 4) = false := by simp [e4]
      by_cases e5 : ck = 5
      case pos =>
        subst e5
        have hTk : T = be (i % 18446744073709551616).toNat 8 := by rw [← HT.out]; simp [encT, saysB, hasB]
        rw [hTk] at hQL
        have HTK := Lib.hid hTk
        simp only [be_length] at hQL
        have HS : Hid (∀ b : Nat, b ≠ 46 → hasB (says10B 5) b = hasB (saysB 5) b) := fun b hb => says10_has _ b hb
        obtain ⟨SB, hSB⟩ : ∃ SB, says10B 5 = SB := ⟨_, rfl⟩
        have SZ10 : Hid (SB.size ≤ 2) := by
          unfold Hid; rw [← hSB]; decide
        have s75 : hasB SB 75 = false := by rw [← hSB, HS.out _ (by omega)]; rfl
        have s73 : hasB SB 73 = true := by rw [← hSB, HS.out _ (by omega)]; rfl
        have s74 : hasB SB 74 = false := by rw [← hSB, HS.out _ (by omega)]; rfl
        have s78 : hasB SB 78 = false := by rw [← hSB, HS.out _ (by omega)]; rfl
        have s86 : hasB SB 86 = false := by rw [← hSB, HS.out _ (by omega)]; rfl
        have s83 : hasB SB 83 = false := by rw [← hSB, HS.out _ (by omega)]; rfl
        have HSB := Lib.hid hSB
        clear hSB
        clear hTk
        go_wp2_with (first | (go_at_call 51; (with_reducible refine (says10_any _ _).mono ?_); rintro e w2 ⟨rfl, hb2⟩; rw [HSB.out]; replace wx := wx.behind hb2; have y0 := wx.at_ 0 _ rfl; have y1 := wx.at_ 1 _ rfl; have y2 := wx.at_ 2 _ rfl; have y3 := wx.at_ 3 _ rfl; have y4 := wx.at_ 4 _ rfl; have y5 := wx.at_ 5 _ rfl; have y6 := wx.at_ 6 _ rfl; have y7 := wx.at_ 7 _ rfl; have y8 := wx.at_ 8 _ rfl; have y9 := wx.at_ 9 _ rfl; have y10 := wx.at_ 10 _ rfl; have y11 := wx.at_ 11 _ rfl) | (go_at_call 52; (with_reducible refine (in10_75_any _ _ ?_).mono ?_); (focus (have := SZ10.out; omega)); rintro e w2 ⟨rfl, hb2⟩; replace wx := wx.behind hb2; have y0 := wx.at_ 0 _ rfl; have y1 := wx.at_ 1 _ rfl; have y2 := wx.at_ 2 _ rfl; have y3 := wx.at_ 3 _ rfl; have y4 := wx.at_ 4 _ rfl; have y5 := wx.at_ 5 _ rfl; have y6 := wx.at_ 6 _ rfl; have y7 := wx.at_ 7 _ rfl; have y8 := wx.at_ 8 _ rfl; have y9 := wx.at_ 9 _ rfl; have y10 := wx.at_ 10 _ rfl; have y11 := wx.at_ 11 _ rfl) | (go_at_call 52; (with_reducible refine (in10_73_any _ _ ?_).mono ?_); (focus (have := SZ10.out; omega)); rintro e w2 ⟨rfl, hb2⟩; replace wx := wx.behind hb2; have y0 := wx.at_ 0 _ rfl; have y1 := wx.at_ 1 _ rfl; have y2 := wx.at_ 2 _ rfl; have y3 := wx.at_ 3 _ rfl; have y4 := wx.at_ 4 _ rfl; have y5 := wx.at_ 5 _ rfl; have y6 := wx.at_ 6 _ rfl; have y7 := wx.at_ 7 _ rfl; have y8 := wx.at_ 8 _ rfl; have y9 := wx.at_ 9 _ rfl; have y10 := wx.at_ 10 _ rfl; have y11 := wx.at_ 11 _ rfl) | (go_at_call 52; (with_reducible refine (in10_74_any _ _ ?_).mono ?_); (focus (have := SZ10.out; omega)); rintro e w2 ⟨rfl, hb2⟩; replace wx := wx.behind hb2; have y0 := wx.at_ 0 _ rfl; have y1 := wx.at_ 1 _ rfl; have y2 := wx.at_ 2 _ rfl; have y3 := wx.at_ 3 _ rfl; have y4 := wx.at_ 4 _ rfl; have y5 := wx.at_ 5 _ rfl; have y6 := wx.at_ 6 _ rfl; have y7 := wx.at_ 7 _ rfl; have y8 := wx.at_ 8 _ rfl; have y9 := wx.at_ 9 _ rfl; have y10 := wx.at_ 10 _ rfl; have y11 := wx.at_ 11 _ rfl) | (go_at_call 52; (with_reducible refine (in10_78_any _ _ ?_).mono ?_); (focus (have := SZ10.out; omega)); rintro e w2 ⟨rfl, hb2⟩; replace wx := wx.behind hb2; have y0 := wx.at_ 0 _ rfl; have y1 := wx.at_ 1 _ rfl; have y2 := wx.at_ 2 _ rfl; have y3 := wx.at_ 3 _ rfl; have y4 := wx.at_ 4 _ rfl; have y5 := wx.at_ 5 _ rfl; have y6 := wx.at_ 6 _ rfl; have y7 := wx.at_ 7 _ rfl; have y8 := wx.at_ 8 _ rfl; have y9 := wx.at_ 9 _ rfl; have y10 := wx.at_ 10 _ rfl; have y11 := wx.at_ 11 _ rfl) | (go_at_call 52; (with_reducible refine (in10_86_any _ _ ?_).mono ?_); (focus (have := SZ10.out; omega)); rintro e w2 ⟨rfl, hb2⟩; replace wx := wx.behind hb2; have y0 := wx.at_ 0 _ rfl; have y1 := wx.at_ 1 _ rfl; have y2 := wx.at_ 2 _ rfl; have y3 := wx.at_ 3 _ rfl; have y4 := wx.at_ 4 _ rfl; have y5 := wx.at_ 5 _ rfl; have y6 := wx.at_ 6 _ rfl; have y7 := wx.at_ 7 _ rfl; have y8 := wx.at_ 8 _ rfl; have y9 := wx.at_ 9 _ rfl; have y10 := wx.at_ 10 _ rfl; have y11 := wx.at_ 11 _ rfl) | (go_at_call 52; (with_reducible refine (in10_83_any _ _ ?_).mono ?_); (focus (have := SZ10.out; omega)); rintro e w2 ⟨rfl, hb2⟩; replace wx := wx.behind hb2; have y0 := wx.at_ 0 _ rfl; have y1 := wx.at_ 1 _ rfl; have y2 := wx.at_ 2 _ rfl; have y3 := wx.at_ 3 _ rfl; have y4 := wx.at_ 4 _ rfl; have y5 := wx.at_ 5 _ rfl; have y6 := wx.at_ 6 _ rfl; have y7 := wx.at_ 7 _ rfl; have y8 := wx.at_ 8 _ rfl; have y9 := wx.at_ 9 _ rfl; have y10 := wx.at_ 10 _ rfl; have y11 := wx.at_ 11 _ rfl) | (go_at_call 53; (with_reducible refine (number8m_any _ _ B wb _ _ wx.wrt ?_).mono ?_); (focus ((first | omega | (simp only [List.length_append]; omega) | (simp only [List.length_append, be_length]; omega)))); rintro e w2 ⟨rfl, v2, hr2, hs2⟩; replace wx := wx.next hr2 hs2; have y0 := wx.at_ 0 _ rfl; have y1 := wx.at_ 1 _ rfl; have y2 := wx.at_ 2 _ rfl; have y3 := wx.at_ 3 _ rfl; have y4 := wx.at_ 4 _ rfl; have y5 := wx.at_ 5 _ rfl; have y6 := wx.at_ 6 _ rfl; have y7 := wx.at_ 7 _ rfl; have y8 := wx.at_ 8 _ rfl; have y9 := wx.at_ 9 _ rfl; have y10 := wx.at_ 10 _ rfl; have y11 := wx.at_ 11 _ rfl))
        go_returns
        exact ⟨rfl, _, by rw [HQ.out, HTK.out]; have := wx.wrt; first | exact this | (simp only [List.append_assoc] at this ⊢; exact this) | (simp only [List.append_nil] at this ⊢; exact this), wx.st⟩
      have f5 : (ck == 5) = false := by simp [e5]
      by_cases e6 : ck = 6
      case pos =>
        subst e6
        have hTk : T = be (i % 18446744073709551616).toNat 8 ++ encV vv := by rw [← HT.out]; simp [encT, saysB, hasB]
        rw [hTk] at hQL
        have HTK := Lib.hid hTk
        simp only [List.length_append, be_length] at hQL
        have HS : Hid (∀ b : Nat, b ≠ 46 → hasB (says10B 6) b = hasB (saysB 6) b) := fun b hb => says10_has _ b hb
        obtain ⟨SB, hSB⟩ : ∃ SB, says10B 6 = SB := ⟨_, rfl⟩
        have SZ10 : Hid (SB.size ≤ 2) := by
          unfold Hid; rw [← hSB]; decide
        have s75 : hasB SB 75 = false := by rw [← hSB, HS.out _ (by omega)]; rfl
        have s73 : hasB SB 73 = true := by rw [← hSB, HS.out _ (by omega)]; rfl
        have s74 : hasB SB 74 = false := by rw [← hSB, HS.out _ (by omega)]; rfl
        have s78 : hasB SB 78 = false := by rw [← hSB, HS.out _ (by omega)]; rfl
        have s86 : hasB SB 86 = true := by rw [← hSB, HS.out _ (by omega)]; rfl
        have s83 : hasB SB 83 = false := by rw [← hSB, HS.out _ (by omega)]; rfl
        have HSB := Lib.hid hSB
        clear hSB
        clear hTk
        go_wp2_with (first | (go_at_call 51; (with_reducible refine (says10_any _ _).mono ?_); rintro e w2 ⟨rfl, hb2⟩; rw [HSB.out]; replace wx := wx.behind hb2; have y0 := wx.at_ 0 _ rfl; have y1 := wx.at_ 1 _ rfl; have y2 := wx.at_ 2 _ rfl; have y3 := wx.at_ 3 _ rfl; have y4 := wx.at_ 4 _ rfl; have y5 := wx.at_ 5 _ rfl; have y6 := wx.at_ 6 _ rfl; have y7 := wx.at_ 7 _ rfl; have y8 := wx.at_ 8 _ rfl; have y9 := wx.at_ 9 _ rfl; have y10 := wx.at_ 10 _ rfl; have y11 := wx.at_ 11 _ rfl) | (go_at_call 52; (with_reducible refine (in10_75_any _ _ ?_).mono ?_); (focus (have := SZ10.out; omega)); rintro e w2 ⟨rfl, hb2⟩; replace wx := wx.behind hb2; have y0 := wx.at_ 0 _ rfl; have y1 := wx.at_ 1 _ rfl; have y2 := wx.at_ 2 _ rfl; have y3 := wx.at_ 3 _ rfl; have y4 := wx.at_ 4 _ rfl; have y5 := wx.at_ 5 _ rfl; have y6 := wx.at_ 6 _ rfl; have y7 := wx.at_ 7 _ rfl; have y8 := wx.at_ 8 _ rfl; have y9 := wx.at_ 9 _ rfl; have y10 := wx.at_ 10 _ rfl; have y11 := wx.at_ 11 _ rfl) | (go_at_call 52; (with_reducible refine (in10_73_any _ _ ?_).mono ?_); (focus (have := SZ10.out; omega)); rintro e w2 ⟨rfl, hb2⟩; replace wx := wx.behind hb2; have y0 := wx.at_ 0 _ rfl; have y1 := wx.at_ 1 _ rfl; have y2 := wx.at_ 2 _ rfl; have y3 := wx.at_ 3 _ rfl; have y4 := wx.at_ 4 _ rfl; have y5 := wx.at_ 5 _ rfl; have y6 := wx.at_ 6 _ rfl; have y7 := wx.at_ 7 _ rfl; have y8 := wx.at_ 8 _ rfl; have y9 := wx.at_ 9 _ rfl; have y10 := wx.at_ 10 _ rfl; have y11 := wx.at_ 11 _ rfl) | (go_at_call 52; (with_reducible refine (in10_74_any _ _ ?_).mono ?_); (focus (have := SZ10.out; omega)); rintro e w2 ⟨rfl, hb2⟩; replace wx := wx.behind hb2; have y0 := wx.at_ 0 _ rfl; have y1 := wx.at_ 1 _ rfl; have y2 := wx.at_ 2 _ rfl; have y3 := wx.at_ 3 _ rfl; have y4 := wx.at_ 4 _ rfl; have y5 := wx.at_ 5 _ rfl; have y6 := wx.at_ 6 _ rfl; have y7 := wx.at_ 7 _ rfl; have y8 := wx.at_ 8 _ rfl; have y9 := wx.at_ 9 _ rfl; have y10 := wx.at_ 10 _ rfl; have y11 := wx.at_ 11 _ rfl) | (go_at_call 52; (with_reducible refine (in10_78_any _ _ ?_).mono ?_); (focus (have := SZ10.out; omega)); rintro e w2 ⟨rfl, hb2⟩; replace wx := wx.behind hb2; have y0 := wx.at_ 0 _ rfl; have y1 := wx.at_ 1 _ rfl; have y2 := wx.at_ 2 _ rfl; have y3 := wx.at_ 3 _ rfl; have y4 := wx.at_ 4 _ rfl; have y5 := wx.at_ 5 _ rfl; have y6 := wx.at_ 6 _ rfl; have y7 := wx.at_ 7 _ rfl; have y8 := wx.at_ 8 _ rfl; have y9 := wx.at_ 9 _ rfl; have y10 := wx.at_ 10 _ rfl; have y11 := wx.at_ 11 _ rfl) | (go_at_call 52; (with_reducible refine (in10_86_any _ _ ?_).mono ?_); (focus (have := SZ10.out; omega)); rintro e w2 ⟨rfl, hb2⟩; replace wx := wx.behind hb2; have y0 := wx.at_ 0 _ rfl; have y1 := wx.at_ 1 _ rfl; have y2 := wx.at_ 2 _ rfl; have y3 := wx.at_ 3 _ rfl; have y4 := wx.at_ 4 _ rfl; have y5 := wx.at_ 5 _ rfl; have y6 := wx.at_ 6 _ rfl; have y7 := wx.at_ 7 _ rfl; have y8 := wx.at_ 8 _ rfl; have y9 := wx.at_ 9 _ rfl; have y10 := wx.at_ 10 _ rfl; have y11 := wx.at_ 11 _ rfl) | (go_at_call 52; (with_reducible refine (in10_83_any _ _ ?_).mono ?_); (focus (have := SZ10.out; omega)); rintro e w2 ⟨rfl, hb2⟩; replace wx := wx.behind hb2; have y0 := wx.at_ 0 _ rfl; have y1 := wx.at_ 1 _ rfl; have y2 := wx.at_ 2 _ rfl; have y3 := wx.at_ 3 _ rfl; have y4 := wx.at_ 4 _ rfl; have y5 := wx.at_ 5 _ rfl; have y6 := wx.at_ 6 _ rfl; have y7 := wx.at_ 7 _ rfl; have y8 := wx.at_ 8 _ rfl; have y9 := wx.at_ 9 _ rfl; have y10 := wx.at_ 10 _ rfl; have y11 := wx.at_ 11 _ rfl) | (go_at_call 53; (with_reducible refine (number8m_any _ _ B wb _ _ wx.wrt ?_).mono ?_); (focus ((first | omega | (simp only [List.length_append]; omega) | (simp only [List.length_append, be_length]; omega)))); rintro e w2 ⟨rfl, v2, hr2, hs2⟩; replace wx := wx.next hr2 hs2; have y0 := wx.at_ 0 _ rfl; have y1 := wx.at_ 1 _ rfl; have y2 := wx.at_ 2 _ rfl; have y3 := wx.at_ 3 _ rfl; have y4 := wx.at_ 4 _ rfl; have y5 := wx.at_ 5 _ rfl; have y6 := wx.at_ 6 _ rfl; have y7 := wx.at_ 7 _ rfl; have y8 := wx.at_ 8 _ rfl; have y9 := wx.at_ 9 _ rfl; have y10 := wx.at_ 10 _ rfl; have y11 := wx.at_ 11 _ rfl) | (go_at_call 42; (with_reducible refine (refValueX_any vv vk vn vs vla vll vlc voa vol voc _ B wb _ _ wx.wrt (HV.out _ (H0.out.keeps wx.st)) ?_).mono ?_); (focus ((first | omega | (simp only [List.length_append]; omega) | (simp only [List.length_append, be_length]; omega)))); rintro e w2 ⟨rfl, v2, hr2, hs2⟩; replace wx := wx.next hr2 hs2; have y0 := wx.at_ 0 _ rfl; have y1 := wx.at_ 1 _ rfl; have y2 := wx.at_ 2 _ rfl; have y3 := wx.at_ 3 _ rfl; have y4 := wx.at_ 4 _ rfl; have y5 := wx.at_ 5 _ rfl; have y6 := wx.at_ 6 _ rfl; have y7 := wx.at_ 7 _ rfl; have y8 := wx.at_ 8 _ rfl; have y9 := wx.at_ 9 _ rfl; have y10 := wx.at_ 10 _ rfl; have y11 := wx.at_ 11 _ rfl))
        go_returns
        exact ⟨rfl, _, by rw [HQ.out, HTK.out]; have := wx.wrt; first | exact this | (simp only [List.append_assoc] at this ⊢; exact this) | (simp only [List.append_nil] at this ⊢; exact this), wx.st⟩
      have f6 : (ck == 6) = false := by simp [e6]
      by_cases e7 : ck = 7
      case pos =>
        subst e7
        have hTk : T = be (i % 18446744073709551616).toNat 8 ++ be (j % 18446744073709551616).toNat 8 := by rw [← HT.out]; simp [encT, saysB, hasB]
        rw [hTk] at hQL
        have HTK := Lib.hid hTk
        simp only [List.length_append, be_length] at hQL
        have HS : Hid (∀ b : Nat, b ≠ 46 → hasB (says10B 7) b = hasB (saysB 7) b) := fun b hb => says10_has _ b hb
        obtain ⟨SB, hSB⟩ : ∃ SB, says10B 7 = SB := ⟨_, rfl⟩
        have SZ10 : Hid (SB.size ≤ 2) := by
          unfold Hid; rw [← hSB]; decide
        have s75 : hasB SB 75 = false := by rw [← hSB, HS.out _ (by omega)]; rfl
        have s73 : hasB SB 73 = true := by rw [← hSB, HS.out _ (by omega)]; rfl
        have s74 : hasB SB 74 = true := by rw [← hSB, HS.out _ (by omega)]; rfl
        have s78 : hasB SB 78 = false := by rw [← hSB, HS.out _ (by omega)]; rfl
        have s86 : hasB SB 86 = false := by rw [← hSB, HS.out _ (by omega)]; rfl
        have s83 : hasB SB 83 = false := by rw [← hSB, HS.out _ (by omega)]; rfl
        have HSB := Lib.hid hSB
        clear hSB
        clear hTk
        go_wp2_with (first | (go_at_call 51; (with_reducible refine (says10_any _ _).mono ?_); rintro e w2 ⟨rfl, hb2⟩; rw [HSB.out]; replace wx := wx.behind hb2; have y0 := wx.at_ 0 _ rfl; have y1 := wx.at_ 1 _ rfl; have y2 := wx.at_ 2 _ rfl; have y3 := wx.at_ 3 _ rfl; have y4 := wx.at_ 4 _ rfl; have y5 := wx.at_ 5 _ rfl; have y6 := wx.at_ 6 _ rfl; have y7 := wx.at_ 7 _ rfl; have y8 := wx.at_ 8 _ rfl; have y9 := wx.at_ 9 _ rfl; have y10 := wx.at_ 10 _ rfl; have y11 := wx.at_ 11 _ rfl) | (go_at_call 52; (with_reducible refine (in10_75_any _ _ ?_).mono ?_); (focus (have := SZ10.out; omega)); rintro e w2 ⟨rfl, hb2⟩; replace wx := wx.behind hb2; have y0 := wx.at_ 0 _ rfl; have y1 := wx.at_ 1 _ rfl; have y2 := wx.at_ 2 _ rfl; have y3 := wx.at_ 3 _ rfl; have y4 := wx.at_ 4 _ rfl; have y5 := wx.at_ 5 _ rfl; have y6 := wx.at_ 6 _ rfl; have y7 := wx.at_ 7 _ rfl; have y8 := wx.at_ 8 _ rfl; have y9 := wx.at_ 9 _ rfl; have y10 := wx.at_ 10 _ rfl; have y11 := wx.at_ 11 _ rfl) | (go_at_call 52; (with_reducible refine (in10_73_any _ _ ?_).mono ?_); (focus (have := SZ10.out; omega)); rintro e w2 ⟨rfl, hb2⟩; replace wx := wx.behind hb2; have y0 := wx.at_ 0 _ rfl; have y1 := wx.at_ 1 _ rfl; have y2 := wx.at_ 2 _ rfl; have y3 := wx.at_ 3 _ rfl; have y4 := wx.at_ 4 _ rfl; have y5 := wx.at_ 5 _ rfl; have y6 := wx.at_ 6 _ rfl; have y7 := wx.at_ 7 _ rfl; have y8 := wx.at_ 8 _ rfl; have y9 := wx.at_ 9 _ rfl; have y10 := wx.at_ 10 _ rfl; have y11 := wx.at_ 11 _ rfl) | (go_at_call 52; (with_reducible refine (in10_74_any _ _ ?_).mono ?_); (focus (have := SZ10.out; omega)); rintro e w2 ⟨rfl, hb2⟩; replace wx := wx.behind hb2; have y0 := wx.at_ 0 _ rfl; have y1 := wx.at_ 1 _ rfl; have y2 := wx.at_ 2 _ rfl; have y3 := wx.at_ 3 _ rfl; have y4 := wx.at_ 4 _ rfl; have y5 := wx.at_ 5 _ rfl; have y6 := wx.at_ 6 _ rfl; have y7 := wx.at_ 7 _ rfl; have y8 := wx.at_ 8 _ rfl; have y9 := wx.at_ 9 _ rfl; have y10 := wx.at_ 10 _ rfl; have y11 := wx.at_ 11 _ rfl) | (go_at_call 52; (with_reducible refine (in10_78_any _ _ ?_).mono ?_); (focus (have := SZ10.out; omega)); rintro e w2 ⟨rfl, hb2⟩; replace wx := wx.behind hb2; have y0 := wx.at_ 0 _ rfl; have y1 := wx.at_ 1 _ rfl; have y2 := wx.at_ 2 _ rfl; have y3 := wx.at_ 3 _ rfl; have y4 := wx.at_ 4 _ rfl; have y5 := wx.at_ 5 _ rfl; have y6 := wx.at_ 6 _ rfl; have y7 := wx.at_ 7 _ rfl; have y8 := wx.at_ 8 _ rfl; have y9 := wx.at_ 9 _ rfl; have y10 := wx.at_ 10 _ rfl; have y11 := wx.at_ 11 _ rfl) | (go_at_call 52; (with_reducible refine (in10_86_any _ _ ?_).mono ?_); (focus (have := SZ10.out; omega)); rintro e w2 ⟨rfl, hb2⟩; replace wx := wx.behind hb2; have y0 := wx.at_ 0 _ rfl; have y1 := wx.at_ 1 _ rfl; have y2 := wx.at_ 2 _ rfl; have y3 := wx.at_ 3 _ rfl; have y4 := wx.at_ 4 _ rfl; have y5 := wx.at_ 5 _ rfl; have y6 := wx.at_ 6 _ rfl; have y7 := wx.at_ 7 _ rfl; have y8 := wx.at_ 8 _ rfl; have y9 := wx.at_ 9 _ rfl; have y10 := wx.at_ 10 _ rfl; have y11 := wx.at_ 11 _ rfl) | (go_at_call 52; (with_reducible refine (in10_83_any _ _ ?_).mono ?_); (focus (have := SZ10.out; omega)); rintro e w2 ⟨rfl, hb2⟩; replace wx := wx.behind hb2; have y0 := wx.at_ 0 _ rfl; have y1 := wx.at_ 1 _ rfl; have y2 := wx.at_ 2 _ rfl; have y3 := wx.at_ 3 _ rfl; have y4 := wx.at_ 4 _ rfl; have y5 := wx.at_ 5 _ rfl; have y6 := wx.at_ 6 _ rfl; have y7 := wx.at_ 7 _ rfl; have y8 := wx.at_ 8 _ rfl; have y9 := wx.at_ 9 _ rfl; have y10 := wx.at_ 10 _ rfl; have y11 := wx.at_ 11 _ rfl) | (go_at_call 53; (with_reducible refine (number8m_any _ _ B wb _ _ wx.wrt ?_).mono ?_); (focus ((first | omega | (simp only [List.length_append]; omega) | (simp only [List.length_append, be_length]; omega)))); rintro e w2 ⟨rfl, v2, hr2, hs2⟩; replace wx := wx.next hr2 hs2; have y0 := wx.at_ 0 _ rfl; have y1 := wx.at_ 1 _ rfl; have y2 := wx.at_ 2 _ rfl; have y3 := wx.at_ 3 _ rfl; have y4 := wx.at_ 4 _ rfl; have y5 := wx.at_ 5 _ rfl; have y6 := wx.at_ 6 _ rfl; have y7 := wx.at_ 7 _ rfl; have y8 := wx.at_ 8 _ rfl; have y9 := wx.at_ 9 _ rfl; have y10 := wx.at_ 10 _ rfl; have y11 := wx.at_ 11 _ rfl))
        go_returns
        exact ⟨rfl, _, by rw [HQ.out, HTK.out]; have := wx.wrt; first | exact this | (simp only [List.append_assoc] at this ⊢; exact this) | (simp only [List.append_nil] at this ⊢; exact this), wx.st⟩
      have f7 : (ck == 7) = false := by simp [e7]
      by_cases e8 : ck = 8
      case pos =>
        subst e8
        have hTk : T = be (i % 18446744073709551616).toNat 8 ++ encS s := by rw [← HT.out]; simp [encT, saysB, hasB]
        rw [hTk] at hQL
        have HTK := Lib.hid hTk
        simp only [List.length_append, be_length] at hQL
        have HS : Hid (∀ b : Nat, b ≠ 46 → hasB (says10B 8) b = hasB (saysB 8) b) := fun b hb => says10_has _ b hb
        obtain ⟨SB, hSB⟩ : ∃ SB, says10B 8 = SB := ⟨_, rfl⟩
        have SZ10 : Hid (SB.size ≤ 2) := by
          unfold Hid; rw [← hSB]; decide
        have s75 : hasB SB 75 = false := by rw [← hSB, HS.out _ (by omega)]; rfl
        have s73 : hasB SB 73 = true := by rw [← hSB, HS.out _ (by omega)]; rfl
        have s74 : hasB SB 74 = false := by rw [← hSB, HS.out _ (by omega)]; rfl
        have s78 : hasB SB 78 = false := by rw [← hSB, HS.out _ (by omega)]; rfl
        have s86 : hasB SB 86 = false := by rw [← hSB, HS.out _ (by omega)]; rfl
        have s83 : hasB SB 83 = true := by rw [← hSB, HS.out _ (by omega)]; rfl
        have HSB := Lib.hid hSB
        clear hSB
        clear hTk
        go_wp2_with (first | (go_at_call 51; (with_reducible refine (says10_any _ _).mono ?_); rintro e w2 ⟨rfl, hb2⟩; rw [HSB.out]; replace wx := wx.behind hb2; have y0 := wx.at_ 0 _ rfl; have y1 := wx.at_ 1 _ rfl; have y2 := wx.at_ 2 _ rfl; have y3 := wx.at_ 3 _ rfl; have y4 := wx.at_ 4 _ rfl; have y5 := wx.at_ 5 _ rfl; have y6 := wx.at_ 6 _ rfl; have y7 := wx.at_ 7 _ rfl; have y8 := wx.at_ 8 _ rfl; have y9 := wx.at_ 9 _ rfl; have y10 := wx.at_ 10 _ rfl; have y11 := wx.at_ 11 _ rfl) | (go_at_call 52; (with_reducible refine (in10_75_any _ _ ?_).mono ?_); (focus (have := SZ10.out; omega)); rintro e w2 ⟨rfl, hb2⟩; replace wx := wx.behind hb2; have y0 := wx.at_ 0 _ rfl; have y1 := wx.at_ 1 _ rfl; have y2 := wx.at_ 2 _ rfl; have y3 := wx.at_ 3 _ rfl; have y4 := wx.at_ 4 _ rfl; have y5 := wx.at_ 5 _ rfl; have y6 := wx.at_ 6 _ rfl; have y7 := wx.at_ 7 _ rfl; have y8 := wx.at_ 8 _ rfl; have y9 := wx.at_ 9 _ rfl; have y10 := wx.at_ 10 _ rfl; have y11 := wx.at_ 11 _ rfl) | (go_at_call 52; (with_reducible refine (in10_73_any _ _ ?_).mono ?_); (focus (have := SZ10.out; omega)); rintro e w2 ⟨rfl, hb2⟩; replace wx := wx.behind hb2; have y0 := wx.at_ 0 _ rfl; have y1 := wx.at_ 1 _ rfl; have y2 := wx.at_ 2 _ rfl; have y3 := wx.at_ 3 _ rfl; have y4 := wx.at_ 4 _ rfl; have y5 := wx.at_ 5 _ rfl; have y6 := wx.at_ 6 _ rfl; have y7 := wx.at_ 7 _ rfl; have y8 := wx.at_ 8 _ rfl; have y9 := wx.at_ 9 _ rfl; have y10 := wx.at_ 10 _ rfl; have y11 := wx.at_ 11 _ rfl) | (go_at_call 52; (with_reducible refine (in10_74_any _ _ ?_).mono ?_); (focus (have := SZ10.out; omega)); rintro e w2 ⟨rfl, hb2⟩; replace wx := wx.behind hb2; have y0 := wx.at_ 0 _ rfl; have y1 := wx.at_ 1 _ rfl; have y2 := wx.at_ 2 _ rfl; have y3 := wx.at_ 3 _ rfl; have y4 := wx.at_ 4 _ rfl; have y5 := wx.at_ 5 _ rfl; have y6 := wx.at_ 6 _ rfl; have y7 := wx.at_ 7 _ rfl; have y8 := wx.at_ 8 _ rfl; have y9 := wx.at_ 9 _ rfl; have y10 := wx.at_ 10 _ rfl; have y11 := wx.at_ 11 _ rfl) | (go_at_call 52; (with_reducible refine (in10_78_any _ _ ?_).mono ?_); (focus (have := SZ10.out; omega)); rintro e w2 ⟨rfl, hb2⟩; replace wx := wx.behind hb2; have y0 := wx.at_ 0 _ rfl; have y1 := wx.at_ 1 _ rfl; have y2 := wx.at_ 2 _ rfl; have y3 := wx.at_ 3 _ rfl; have y4 := wx.at_ 4 _ rfl; have y5 := wx.at_ 5 _ rfl; have y6 := wx.at_ 6 _ rfl; have y7 := wx.at_ 7 _ rfl; have y8 := wx.at_ 8 _ rfl; have y9 := wx.at_ 9 _ rfl; have y10 := wx.at_ 10 _ rfl; have y11 := wx.at_ 11 _ rfl) | (go_at_call 52; (with_reducible refine (in10_86_any _ _ ?_).mono ?_); (focus (have := SZ10.out; omega)); rintro e w2 ⟨rfl, hb2⟩; replace wx := wx.behind hb2; have y0 := wx.at_ 0 _ rfl; have y1 := wx.at_ 1 _ rfl; have y2 := wx.at_ 2 _ rfl; have y3 := wx.at_ 3 _ rfl; have y4 := wx.at_ 4 _ rfl; have y5 := wx.at_ 5 _ rfl; have y6 := wx.at_ 6 _ rfl; have y7 := wx.at_ 7 _ rfl; have y8 := wx.at_ 8 _ rfl; have y9 := wx.at_ 9 _ rfl; have y10 := wx.at_ 10 _ rfl; have y11 := wx.at_ 11 _ rfl) | (go_at_call 52; (with_reducible refine (in10_83_any _ _ ?_).mono ?_); (focus (have := SZ10.out; omega)); rintro e w2 ⟨rfl, hb2⟩; replace wx := wx.behind hb2; have y0 := wx.at_ 0 _ rfl; have y1 := wx.at_ 1 _ rfl; have y2 := wx.at_ 2 _ rfl; have y3 := wx.at_ 3 _ rfl; have y4 := wx.at_ 4 _ rfl; have y5 := wx.at_ 5 _ rfl; have y6 := wx.at_ 6 _ rfl; have y7 := wx.at_ 7 _ rfl; have y8 := wx.at_ 8 _ rfl; have y9 := wx.at_ 9 _ rfl; have y10 := wx.at_ 10 _ rfl; have y11 := wx.at_ 11 _ rfl) | (go_at_call 53; (with_reducible refine (number8m_any _ _ B wb _ _ wx.wrt ?_).mono ?_); (focus ((first | omega | (simp only [List.length_append]; omega) | (simp only [List.length_append, be_length]; omega)))); rintro e w2 ⟨rfl, v2, hr2, hs2⟩; replace wx := wx.next hr2 hs2; have y0 := wx.at_ 0 _ rfl; have y1 := wx.at_ 1 _ rfl; have y2 := wx.at_ 2 _ rfl; have y3 := wx.at_ 3 _ rfl; have y4 := wx.at_ 4 _ rfl; have y5 := wx.at_ 5 _ rfl; have y6 := wx.at_ 6 _ rfl; have y7 := wx.at_ 7 _ rfl; have y8 := wx.at_ 8 _ rfl; have y9 := wx.at_ 9 _ rfl; have y10 := wx.at_ 10 _ rfl; have y11 := wx.at_ 11 _ rfl) | (go_at_call 76; (with_reducible refine (refText_any _ _ B wb _ _ wx.wrt ?_).mono ?_); (focus ((first | omega | (simp only [List.length_append]; omega) | (simp only [List.length_append, be_length]; omega)))); rintro e w2 ⟨rfl, v2, hr2, hs2⟩; replace wx := wx.next hr2 hs2; have y0 := wx.at_ 0 _ rfl; have y1 := wx.at_ 1 _ rfl; have y2 := wx.at_ 2 _ rfl; have y3 := wx.at_ 3 _ rfl; have y4 := wx.at_ 4 _ rfl; have y5 := wx.at_ 5 _ rfl; have y6 := wx.at_ 6 _ rfl; have y7 := wx.at_ 7 _ rfl; have y8 := wx.at_ 8 _ rfl; have y9 := wx.at_ 9 _ rfl; have y10 := wx.at_ 10 _ rfl; have y11 := wx.at_ 11 _ rfl))
        go_returns
        exact ⟨rfl, _, by rw [HQ.out, HTK.out]; have := wx.wrt; first | exact this | (simp only [List.append_assoc] at this ⊢; exact this) | (simp only [List.append_nil] at this ⊢; exact this), wx.st⟩
      have f8 : (ck == 8) = false := by simp [e8]
      by_cases e9 : ck = 9
      case pos =>
        subst e9
        have hTk : T = be (i % 18446744073709551616).toNat 8 ++ be (n % 18446744073709551616).toNat 8 := by rw [← HT.out]; simp [encT, saysB, hasB]
        rw [hTk] at hQL
        have HTK := Lib.hid hTk
        simp only [List.length_append, be_length] at hQL
        have HS : Hid (∀ b : Nat, b ≠ 46 → hasB (says10B 9) b = hasB (saysB 9) b) := fun b hb => says10_has _ b hb
        obtain ⟨SB, hSB⟩ : ∃ SB, says10B 9 = SB := ⟨_, rfl⟩
        have SZ10 : Hid (SB.size ≤ 2) := by
          unfold Hid; rw [← hSB]; decide
        have s75 : hasB SB 75 = false := by rw [← hSB, HS.out _ (by omega)]; rfl
        have s73 : hasB SB 73 = true := by rw [← hSB, HS.out _ (by omega)]; rfl
        have s74 : hasB SB 74 = false := by rw [← hSB, HS.out _ (by omega)]; rfl
        have s78 : hasB SB 78 = true := by rw [← hSB, HS.out _ (by omega)]; rfl
        have s86 : hasB SB 86 = false := by rw [← hSB, HS.out _ (by omega)]; rfl
        have s83 : hasB SB 83 = false := by rw [← hSB, HS.out _ (by omega)]; rfl
        have HSB := Lib.hid hSB
        clear hSB
        clear hTk
        go_wp2_with (first | (go_at_call 51; (with_reducible refine (says10_any _ _).mono ?_); rintro e w2 ⟨rfl, hb2⟩; rw [HSB.out]; replace wx := wx.behind hb2; have y0 := wx.at_ 0 _ rfl; have y1 := wx.at_ 1 _ rfl; have y2 := wx.at_ 2 _ rfl; have y3 := wx.at_ 3 _ rfl; have y4 := wx.at_ 4 _ rfl; have y5 := wx.at_ 5 _ rfl; have y6 := wx.at_ 6 _ rfl; have y7 := wx.at_ 7 _ rfl; have y8 := wx.at_ 8 _ rfl; have y9 := wx.at_ 9 _ rfl; have y10 := wx.at_ 10 _ rfl; have y11 := wx.at_ 11 _ rfl) | (go_at_call 52; (with_reducible refine (in10_75_any _ _ ?_).mono ?_); (focus (have := SZ10.out; omega)); rintro e w2 ⟨rfl, hb2⟩; replace wx := wx.behind hb2; have y0 := wx.at_ 0 _ rfl; have y1 := wx.at_ 1 _ rfl; have y2 := wx.at_ 2 _ rfl; have y3 := wx.at_ 3 _ rfl; have y4 := wx.at_ 4 _ rfl; have y5 := wx.at_ 5 _ rfl; have y6 := wx.at_ 6 _ rfl; have y7 := wx.at_ 7 _ rfl; have y8 := wx.at_ 8 _ rfl; have y9 := wx.at_ 9 _ rfl; have y10 := wx.at_ 10 _ rfl; have y11 := wx.at_ 11 _ rfl) | (go_at_call 52; (with_reducible refine (in10_73_any _ _ ?_).mono ?_); (focus (have := SZ10.out; omega)); rintro e w2 ⟨rfl, hb2⟩; replace wx := wx.behind hb2; have y0 := wx.at_ 0 _ rfl; have y1 := wx.at_ 1 _ rfl; have y2 := wx.at_ 2 _ rfl; have y3 := wx.at_ 3 _ rfl; have y4 := wx.at_ 4 _ rfl; have y5 := wx.at_ 5 _ rfl; have y6 := wx.at_ 6 _ rfl; have y7 := wx.at_ 7 _ rfl; have y8 := wx.at_ 8 _ rfl; have y9 := wx.at_ 9 _ rfl; have y10 := wx.at_ 10 _ rfl; have y11 := wx.at_ 11 _ rfl) | (go_at_call 52; (with_reducible refine (in10_74_any _ _ ?_).mono ?_); (focus (have := SZ10.out; omega)); rintro e w2 ⟨rfl, hb2⟩; replace wx := wx.behind hb2; have y0 := wx.at_ 0 _ rfl; have y1 := wx.at_ 1 _ rfl; have y2 := wx.at_ 2 _ rfl; have y3 := wx.at_ 3 _ rfl; have y4 := wx.at_ 4 _ rfl; have y5 := wx.at_ 5 _ rfl; have y6 := wx.at_ 6 _ rfl; have y7 := wx.at_ 7 _ rfl; have y8 := wx.at_ 8 _ rfl; have y9 := wx.at_ 9 _ rfl; have y10 := wx.at_ 10 _ rfl; have y11 := wx.at_ 11 _ rfl) | (go_at_call 52; (with_reducible refine (in10_78_any _ _ ?_).mono ?_); (focus (have := SZ10.out; omega)); rintro e w2 ⟨rfl, hb2⟩; replace wx := wx.behind hb2; have y0 := wx.at_ 0 _ rfl; have y1 := wx.at_ 1 _ rfl; have y2 := wx.at_ 2 _ rfl; have y3 := wx.at_ 3 _ rfl; have y4 := wx.at_ 4 _ rfl; have y5 := wx.at_ 5 _ rfl; have y6 := wx.at_ 6 _ rfl; have y7 := wx.at_ 7 _ rfl; have y8 := wx.at_ 8 _ rfl; have y9 := wx.at_ 9 _ rfl; have y10 := wx.at_ 10 _ rfl; have y11 := wx.at_ 11 _ rfl) | (go_at_call 52; (with_reducible refine (in10_86_any _ _ ?_).mono ?_); (focus (have := SZ10.out; omega)); rintro e w2 ⟨rfl, hb2⟩; replace wx := wx.behind hb2; have y0 := wx.at_ 0 _ rfl; have y1 := wx.at_ 1 _ rfl; have y2 := wx.at_ 2 _ rfl; have y3 := wx.at_ 3 _ rfl; have y4 := wx.at_ 4 _ rfl; have y5 := wx.at_ 5 _ rfl; have y6 := wx.at_ 6 _ rfl; have y7 := wx.at_ 7 _ rfl; have y8 := wx.at_ 8 _ rfl; have y9 := wx.at_ 9 _ rfl; have y10 := wx.at_ 10 _ rfl; have y11 := wx.at_ 11 _ rfl) | (go_at_call 52; (with_reducible refine (in10_83_any _ _ ?_).mono ?_); (focus (have := SZ10.out; omega)); rintro e w2 ⟨rfl, hb2⟩; replace wx := wx.behind hb2; have y0 := wx.at_ 0 _ rfl; have y1 := wx.at_ 1 _ rfl; have y2 := wx.at_ 2 _ rfl; have y3 := wx.at_ 3 _ rfl; have y4 := wx.at_ 4 _ rfl; have y5 := wx.at_ 5 _ rfl; have y6 := wx.at_ 6 _ rfl; have y7 := wx.at_ 7 _ rfl; have y8 := wx.at_ 8 _ rfl; have y9 := wx.at_ 9 _ rfl; have y10 := wx.at_ 10 _ rfl; have y11 := wx.at_ 11 _ rfl) | (go_at_call 53; (with_reducible refine (number8m_any _ _ B wb _ _ wx.wrt ?_).mono ?_); (focus ((first | omega | (simp only [List.length_append]; omega) | (simp only [List.length_append, be_length]; omega)))); rintro e w2 ⟨rfl, v2, hr2, hs2⟩; replace wx := wx.next hr2 hs2; have y0 := wx.at_ 0 _ rfl; have y1 := wx.at_ 1 _ rfl; have y2 := wx.at_ 2 _ rfl; have y3 := wx.at_ 3 _ rfl; have y4 := wx.at_ 4 _ rfl; have y5 := wx.at_ 5 _ rfl; have y6 := wx.at_ 6 _ rfl; have y7 := wx.at_ 7 _ rfl; have y8 := wx.at_ 8 _ rfl; have y9 := wx.at_ 9 _ rfl; have y10 := wx.at_ 10 _ rfl; have y11 := wx.at_ 11 _ rfl))
        go_returns
        exact ⟨rfl, _, by rw [HQ.out, HTK.out]; have := wx.wrt; first | exact this | (simp only [List.append_assoc] at this ⊢; exact this) | (simp only [List.append_nil] at this ⊢; exact this), wx.st⟩
      have f9 : (ck == 9) = false := by simp [e9]
      have hTk : T = [] := by rw [← HT.out]; simp [encT, saysB, hasB, e1, e2, e3, e4, e5, e6, e7, e8, e9]
      rw [hTk] at hQL
      have HTK := Lib.hid hTk
      simp only [List.length_nil] at hQL
      have HS : Hid (∀ b : Nat, b ≠ 46 → hasB (says10B ck) b = hasB (saysB ck) b) := fun b hb => says10_has _ b hb
      obtain ⟨SB, hSB⟩ : ∃ SB, says10B ck = SB := ⟨_, rfl⟩
      have SZ10 : Hid (SB.size ≤ 2) := by
        unfold Hid; rw [← hSB]; unfold says10B; split
        · decide
        · simp [saysB, e1, e2, e3, e4, e5, e6, e7, e8, e9]; decide
      have s75 : hasB SB 75 = false := by rw [← hSB, HS.out _ (by omega)]; simp [saysB, hasB, e1, e2, e3, e4, e5, e6, e7, e8, e9]
      have s73 : hasB SB 73 = false := by rw [← hSB, HS.out _ (by omega)]; simp [saysB, hasB, e1, e2, e3, e4, e5, e6, e7, e8, e9]
      have s74 : hasB SB 74 = false := by rw [← hSB, HS.out _ (by omega)]; simp [saysB, hasB, e1, e2, e3, e4, e5, e6, e7, e8, e9]
      have s78 : hasB SB 78 = false := by rw [← hSB, HS.out _ (by omega)]; simp [saysB, hasB, e1, e2, e3, e4, e5, e6, e7, e8, e9]
      have s86 : hasB SB 86 = false := by rw [← hSB, HS.out _ (by omega)]; simp [saysB, hasB, e1, e2, e3, e4, e5, e6, e7, e8, e9]
      have s83 : hasB SB 83 = false := by rw [← hSB, HS.out _ (by omega)]; simp [saysB, hasB, e1, e2, e3, e4, e5, e6, e7, e8, e9]
      have HSB := Lib.hid hSB
      clear hSB
      clear e1 e2 e3 e4 e5 e6 e7 e8 e9
      clear hTk
      go_wp2_with (first | (go_at_call 51; (with_reducible refine (says10_any _ _).mono ?_); rintro e w2 ⟨rfl, hb2⟩; rw [HSB.out]; replace wx := wx.behind hb2; have y0 := wx.at_ 0 _ rfl; have y1 := wx.at_ 1 _ rfl; have y2 := wx.at_ 2 _ rfl; have y3 := wx.at_ 3 _ rfl; have y4 := wx.at_ 4 _ rfl; have y5 := wx.at_ 5 _ rfl; have y6 := wx.at_ 6 _ rfl; have y7 := wx.at_ 7 _ rfl; have y8 := wx.at_ 8 _ rfl; have y9 := wx.at_ 9 _ rfl; have y10 := wx.at_ 10 _ rfl; have y11 := wx.at_ 11 _ rfl) | (go_at_call 52; (with_reducible refine (in10_75_any _ _ ?_).mono ?_); (focus (have := SZ10.out; omega)); rintro e w2 ⟨rfl, hb2⟩; replace wx := wx.behind hb2; have y0 := wx.at_ 0 _ rfl; have y1 := wx.at_ 1 _ rfl; have y2 := wx.at_ 2 _ rfl; have y3 := wx.at_ 3 _ rfl; have y4 := wx.at_ 4 _ rfl; have y5 := wx.at_ 5 _ rfl; have y6 := wx.at_ 6 _ rfl; have y7 := wx.at_ 7 _ rfl; have y8 := wx.at_ 8 _ rfl; have y9 := wx.at_ 9 _ rfl; have y10 := wx.at_ 10 _ rfl; have y11 := wx.at_ 11 _ rfl) | (go_at_call 52; (with_reducible refine (in10_73_any _ _ ?_).mono ?_); (focus (have := SZ10.out; omega)); rintro e w2 ⟨rfl, hb2⟩; replace wx := wx.behind hb2; have y0 := wx.at_ 0 _ rfl; have y1 := wx.at_ 1 _ rfl; have y2 := wx.at_ 2 _ rfl; have y3 := wx.at_ 3 _ rfl; have y4 := wx.at_ 4 _ rfl; have y5 := wx.at_ 5 _ rfl; have y6 := wx.at_ 6 _ rfl; have y7 := wx.at_ 7 _ rfl; have y8 := wx.at_ 8 _ rfl; have y9 := wx.at_ 9 _ rfl; have y10 := wx.at_ 10 _ rfl; have y11 := wx.at_ 11 _ rfl) | (go_at_call 52; (with_reducible refine (in10_74_any _ _ ?_).mono ?_); (focus (have := SZ10.out; omega)); rintro e w2 ⟨rfl, hb2⟩; replace wx := wx.behind hb2; have y0 := wx.at_ 0 _ rfl; have y1 := wx.at_ 1 _ rfl; have y2 := wx.at_ 2 _ rfl; have y3 := wx.at_ 3 _ rfl; have y4 := wx.at_ 4 _ rfl; have y5 := wx.at_ 5 _ rfl; have y6 := wx.at_ 6 _ rfl; have y7 := wx.at_ 7 _ rfl; have y8 := wx.at_ 8 _ rfl; have y9 := wx.at_ 9 _ rfl; have y10 := wx.at_ 10 _ rfl; have y11 := wx.at_ 11 _ rfl) | (go_at_call 52; (with_reducible refine (in10_78_any _ _ ?_).mono ?_); (focus (have := SZ10.out; omega)); rintro e w2 ⟨rfl, hb2⟩; replace wx := wx.behind hb2; have y0 := wx.at_ 0 _ rfl; have y1 := wx.at_ 1 _ rfl; have y2 := wx.at_ 2 _ rfl; have y3 := wx.at_ 3 _ rfl; have y4 := wx.at_ 4 _ rfl; have y5 := wx.at_ 5 _ rfl; have y6 := wx.at_ 6 _ rfl; have y7 := wx.at_ 7 _ rfl; have y8 := wx.at_ 8 _ rfl; have y9 := wx.at_ 9 _ rfl; have y10 := wx.at_ 10 _ rfl; have y11 := wx.at_ 11 _ rfl) | (go_at_call 52; (with_reducible refine (in10_86_any _ _ ?_).mono ?_); (focus (have := SZ10.out; omega)); rintro e w2 ⟨rfl, hb2⟩; replace wx := wx.behind hb2; have y0 := wx.at_ 0 _ rfl; have y1 := wx.at_ 1 _ rfl; have y2 := wx.at_ 2 _ rfl; have y3 := wx.at_ 3 _ rfl; have y4 := wx.at_ 4 _ rfl; have y5 := wx.at_ 5 _ rfl; have y6 := wx.at_ 6 _ rfl; have y7 := wx.at_ 7 _ rfl; have y8 := wx.at_ 8 _ rfl; have y9 := wx.at_ 9 _ rfl; have y10 := wx.at_ 10 _ rfl; have y11 := wx.at_ 11 _ rfl) | (go_at_call 52; (with_reducible refine (in10_83_any _ _ ?_).mono ?_); (focus (have := SZ10.out; omega)); rintro e w2 ⟨rfl, hb2⟩; replace wx := wx.behind hb2; have y0 := wx.at_ 0 _ rfl; have y1 := wx.at_ 1 _ rfl; have y2 := wx.at_ 2 _ rfl; have y3 := wx.at_ 3 _ rfl; have y4 := wx.at_ 4 _ rfl; have y5 := wx.at_ 5 _ rfl; have y6 := wx.at_ 6 _ rfl; have y7 := wx.at_ 7 _ rfl; have y8 := wx.at_ 8 _ rfl; have y9 := wx.at_ 9 _ rfl; have y10 := wx.at_ 10 _ rfl; have y11 := wx.at_ 11 _ rfl))
      go_returns
      exact ⟨rfl, _, by rw [HQ.out, HTK.out]; have := wx.wrt; first | exact this | (simp only [List.append_assoc] at this ⊢; exact this) | (simp only [List.append_nil] at this ⊢; exact this), wx.st⟩
end Go.Proofs.YtcfbnmobfcabiaaDoor
namespace Go.Proofs.YtcfbnmobfcabiaaDoor
open Go.RowKit

/-- A box of these cells at the head of a call, in a later world. -/
structure BX (w W : World) (cs : List Value) : Prop where
  at_ : ∀ j x, cs[j]? = some x → W.cell? ⟨w.heap.size, j, none⟩ = some x
  below : Below w.heap.size w W
  size : w.heap.size + 1 ≤ W.heap.size
theorem BX.step {w W W' : World} {cs : List Value} (h : BX w W cs) (hb : Below W.heap.size W W') : BX w W' cs :=
  ⟨fun j x hj => keep_cell hb (h.at_ j x hj) (by have := h.size; omega), h.below.trans (hb.mono (by have := h.size; omega)), by have := h.size; have := hb.size; omega⟩
theorem BX.next {w W W1 W2 : World} {B : Nat} {cs : List Value} (h : BX w W cs) (hb : Below B W1 W2) (hW : Below W.heap.size W W1) (hB : B = W1.heap.size) : BX w W2 cs := by
  subst hB; exact (h.step hW).step hb
theorem BX.start (w : World) (cs : Array Value) (t : TypeId) : BX w (w.alloc (.cells cs t)) cs.toList :=
  ⟨fun j x hj => cells_new w cs t j x (by rw [← hj]; simp), (Below.refl _ _).alloc (Nat.le_refl _) _, by simp⟩
theorem frozen_new (w : World) (cs : Array Value) (t : TypeId) (j : Nat) : (w.alloc (.cells cs t)).frozen? ⟨w.heap.size, j, none⟩ = false := by
  simp [go_sem]
theorem WG.fresh {w w1 : World} {cs : List Value} (h : BX w w1 cs) (t : TypeId) : WG (w1.alloc (.cells #[.slice none 0 0] t)) (w1.alloc (.cells #[.slice none 0 0] t)) w.heap.size w1.heap.size w.heap.size (.slice none 0 0) (.slice none 0 0) [] cs := by
  have hb : Below w1.heap.size w1 (w1.alloc (.cells #[.slice none 0 0] t)) := (Below.refl _ _).alloc (Nat.le_refl _) _
  have hs := h.size
  refine ⟨⟨cells_new w1 _ t 0 _ rfl, frozen_new w1 _ t 0, ⟨by simp [outs], .inl ⟨rfl, rfl⟩⟩, by simp [Value.ownBlock], by omega⟩, .refl _ _ _, fun j x hj => keep_cell hb (h.at_ j x hj) (by omega), by omega, by simp; omega, by simp [Value.ownBlock]⟩

/-- A slice of these bytes, below block B. -/
structure IsB (w : World) (B : Nat) (a : Option Addr) (n c : Nat) (bs : List UInt8) : Prop where
  len : n = bs.length
  cap : n ≤ c
  max : c ≤ 9223372036854775807
  at_ : ∃ b o, (0 < n → a = some ⟨b, o, none⟩ ∧ b < B) ∧ ∀ i (h : i < bs.length), w.cell? ⟨b, o + i, none⟩ = some (.int .u8 (bs[i].toNat : Int))
theorem IsB.keep {w w' : World} {B : Nat} {a : Option Addr} {n c : Nat} {bs : List UInt8} (h : IsB w B a n c bs) (hb : Below B w w') : IsB w' B a n c bs := by
  obtain ⟨h1, h2, h3, b, o, h5, h6⟩ := h
  exact ⟨h1, h2, h3, b, o, h5, fun i hi => keep_cell hb (h6 i hi) (h5 (by omega)).2⟩
theorem IsB.more {w : World} {B B' : Nat} {a : Option Addr} {n c : Nat} {bs : List UInt8} (h : IsB w B a n c bs) (hB : B ≤ B') : IsB w B' a n c bs := by
  obtain ⟨h1, h2, h3, b, o, h5, h6⟩ := h
  exact ⟨h1, h2, h3, b, o, fun hn => ⟨(h5 hn).1, by have := (h5 hn).2; omega⟩, h6⟩
theorem IsB.nil (w : World) (B : Nat) : IsB w B none 0 0 [] := ⟨rfl, Nat.le_refl _, by omega, 0, 0, fun h => by omega, fun i hi => by cases hi⟩
theorem Wr.isB {w : World} {B wb : Nat} {v : Value} {bs : List UInt8} (h : Wr w B wb v bs) : ∃ a n c, v = .slice a n c ∧ IsB w w.heap.size a n c bs := by
  have ho := h.own
  have hc := fun g hg => ho.cells (g := g) hg
  rcases ho.2 with ⟨rfl, hn⟩ | ⟨g, cap, cur, rfl, _, hg, hnc, hcm, _, _⟩
  · have : bs = [] := List.length_eq_zero_iff.1 hn
    subst this
    exact ⟨none, 0, 0, rfl, .nil _ _⟩
  · refine ⟨_, _, _, rfl, rfl, hnc, by simpa [maxLen] using hcm, g, 0, fun _ => ⟨rfl, (h.lo g rfl).2⟩, fun i hi => ?_⟩
    have := hc g rfl i (.int .u8 (bs[i].toNat : Int)) (by simp [outs, hi])
    have e : (⟨g, 0, none⟩ : Addr).add i = ⟨g, 0 + i, none⟩ := by unfold Addr.add; split <;> simp_all
    rw [e] at this; exact this

/-- The bytes of an entry that is sound. -/
def encCs : List Cm → List UInt8
  | [] => []
  | c :: r => encC c ++ encCs r
theorem encCs_append (a b : List Cm) : encCs (a ++ b) = encCs a ++ encCs b := by
  induction a with
  | nil => simp [encCs]
  | cons v r ih => simp only [List.cons_append, encCs, ih, List.append_assoc]
theorem encCs_take (l : List Cm) (k : Nat) (h : k < l.length) : encCs (l.take (k + 1)) = encCs (l.take k) ++ encC l[k] := by
  rw [take_snoc l k h, encCs_append]; simp [encCs]
theorem encCs_le (l : List Cm) (k : Nat) : (encCs (l.take k)).length ≤ (encCs l).length := by
  have h := encCs_append (l.take k) (l.drop k)
  rw [List.take_append_drop] at h; rw [h, List.length_append]; omega
def encE (e : En) : List UInt8 :=
  be (e.k % 18446744073709551616).toNat 1 ++ be (e.src % 18446744073709551616).toNat 4 ++ be (e.seq % 18446744073709551616).toNat 4 ++
    (if e.k = 1 then encV e.v else if e.k = 2 then be e.op.length 4 ++ encCs e.op else [])
/-- What comes out: the bytes and which error. -/
def outB (ok : Bool) (bs : List UInt8) : List UInt8 := if ok = true then (if 60000 < bs.length then [] else bs) else []
def outN (ok : Bool) (bs : List UInt8) : Int := if ok = true then (if 60000 < bs.length then 3 else 0) else 1

/-- done. -/
theorem done_any (w : World) (B wb : Nat) (v : Value) (bs : List UInt8) (h : Wr w B wb v bs) (hsz : bs.length ≤ 140737488355328) :
    Calls Tryd.prog 36 #[.pointer (some ⟨wb, 0, none⟩)] w fun e w' => (∃ a n c, e = .returned (.tuple #[.slice a n c, .int .u16 (outN true bs)]) ∧ IsB w' w'.heap.size a n c (outB true bs)) ∧ Below w.heap.size w w' := by
  obtain ⟨a, n, c, rfl, hI⟩ := h.isB
  have hc := h.cell
  have hn := hI.len
  have HN := Lib.hid hn
  have HI := Lib.hid hI
  by_cases hq : 60000 < bs.length
  · have e1 : outN true bs = 3 := by simp [outN, hq]
    have e2 : outB true bs = [] := by simp [outB, hq]
    rw [e1, e2]
    have hn2 : 60000 < n := by omega
    clear e1 e2 hI h hn hq
    go_enter Tryd.func36, Tryd.ntmps36
    go_wp2_with fail
    go_returns
    exact ⟨⟨none, 0, 0, rfl, .nil _ _⟩, by go_grown⟩
  · have e1 : outN true bs = 0 := by simp [outN, hq]
    have e2 : outB true bs = bs := by simp [outB, hq]
    rw [e1, e2]
    have hn2 : ¬ 60000 < n := by omega
    clear e1 e2 hI h hn hq
    go_enter Tryd.func36, Tryd.ntmps36
    go_wp2_with fail
    go_returns
    exact ⟨⟨a, n, c, rfl, HI.out⟩, by go_grown⟩

set_option maxHeartbeats 8000000 in
set_option maxRecDepth 100000 in
theorem value_of (sd : Bool) (w : World) (vk vn : Int) (vs : ByteArray) (vla : Option Addr) (vll vlc : Nat) (voa : Option Addr) (vol voc : Nat) (vv : V) (hv : IsVal w w.heap.size vv ⟨vk, vn, vs, vla, vll, vlc, voa, vol, voc⟩) (HS : Hid (∀ W, Below w.heap.size w W → Calls Tryd.prog 39 #[.agg #[.int .u8 vk, .int .i64 vn, .string vs, .slice vla vll vlc, .slice voa vol voc]] W fun e w' => e = .returned (.bool sd) ∧ Below W.heap.size W w')) (hsz : (encV vv).length ≤ 70368744177664) :
    Calls Tryd.prog 15 #[.agg #[.int .u8 vk, .int .i64 vn, .string vs, .slice vla vll vlc, .slice voa vol voc]] w fun e w' => (∃ a n c, e = .returned (.tuple #[.slice a n c, .int .u16 (outN sd (encV vv))]) ∧ IsB w' w'.heap.size a n c (outB sd (encV vv))) ∧ Below w.heap.size w w' := by
  have bx := BX.start w #[.int .u8 vk, .int .i64 vn, .string vs, .slice vla vll vlc, .slice voa vol voc] 28
  have HV : Hid (∀ W, Below w.heap.size w W → IsVal W w.heap.size vv ⟨vk, vn, vs, vla, vll, vlc, voa, vol, voc⟩) := fun W hW => hv.keep hW
  clear hv
  cases sd with
  | false =>
    have e1 : outN false (encV vv) = 1 := rfl
    have e2 : outB false (encV vv) = [] := rfl
    rw [e1, e2]
    clear e1 e2 hsz
    go_enter Tryd.func15, Tryd.ntmps15
    go_wp2_with (go_at_call 39; (with_reducible refine (HS.out _ ?_).mono ?_); (focus (have := bx.below; have := bx.size; go_grown)); rintro e w1 ⟨rfl, hb1⟩; replace bx := bx.next hb1 (by go_grown) rfl; have zs : w.heap.size < w1.heap.size := bx.size; have y0 := bx.at_ 0 _ rfl; have y1 := bx.at_ 1 _ rfl; have y2 := bx.at_ 2 _ rfl; have y3 := bx.at_ 3 _ rfl; have y4 := bx.at_ 4 _ rfl)
    go_returns
    exact ⟨⟨none, 0, 0, rfl, .nil _ _⟩, by have := bx.below; have := bx.size; go_grown⟩
  | true =>
    have hsz0 : (encV vv).length ≤ 140737488355328 := by omega
    go_enter Tryd.func15, Tryd.ntmps15
    go_wp2_with (first | (go_at_call 39; (with_reducible refine (HS.out _ ?_).mono ?_); (focus (have := bx.below; have := bx.size; go_grown)); rintro e w1 ⟨rfl, hb1⟩; replace bx := bx.next hb1 (by go_grown) rfl; have zs : w.heap.size < w1.heap.size := bx.size; have wx := WG.fresh bx 81; have H2 : Hid (Below w.heap.size w (w1.alloc (.cells #[.slice none 0 0] 81))) := Lib.hid (bx.below.alloc (Nat.le_of_lt zs) _); have H0 := Lib.hid wx.wrt; have hlt := bx.size; have b0 := bx.at_ 0 _ rfl; have b1 := bx.at_ 1 _ rfl; have b2 := bx.at_ 2 _ rfl; have b3 := bx.at_ 3 _ rfl; have b4 := bx.at_ 4 _ rfl; have y0 := wx.at_ 0 _ rfl; have y1 := wx.at_ 1 _ rfl; have y2 := wx.at_ 2 _ rfl; have y3 := wx.at_ 3 _ rfl; have y4 := wx.at_ 4 _ rfl) | (go_at_call 33; (with_reducible refine (valueX_any vv vk vn vs vla vll vlc voa vol voc _ w.heap.size w1.heap.size _ _ wx.wrt (HV.out _ (H2.out.trans (H0.out.keeps wx.st))) ?_).mono ?_); (focus ((first | omega | (simp only [List.length_nil]; omega) | (simp only [List.length_append]; omega) | (simp only [List.length_append, List.length_nil]; omega) | (simp only [List.length_append, be_length]; omega) | (simp only [List.length_append, be_length, List.length_nil]; omega)))); rintro e w2 ⟨rfl, v2, hr2, hs2⟩; replace wx := wx.next hr2 hs2; have y0 := wx.at_ 0 _ rfl; have y1 := wx.at_ 1 _ rfl; have y2 := wx.at_ 2 _ rfl; have y3 := wx.at_ 3 _ rfl; have y4 := wx.at_ 4 _ rfl) | (go_at_call 36; (with_reducible refine (done_any _ w.heap.size w1.heap.size _ _ wx.wrt ?_).mono ?_); (focus ((first | omega | (simp only [List.length_nil]; omega) | (simp only [List.length_append]; omega) | (simp only [List.length_append, List.length_nil]; omega) | (simp only [List.length_append, be_length]; omega) | (simp only [List.length_append, be_length, List.length_nil]; omega)))); rintro e w9 ⟨⟨ra, rn, rc, rfl, hI⟩, hb9⟩))
    go_returns
    exact ⟨⟨ra, rn, rc, rfl, hI⟩, by exact (H2.out.trans (H0.out.keeps wx.st)).trans (hb9.mono (by have := wx.lt; omega))⟩

set_option maxHeartbeats 8000000 in
set_option maxRecDepth 100000 in
theorem encode_of (sd : Bool) (w : World) (ek src seq vk vn : Int) (vs : ByteArray) (vla : Option Addr) (vll vlc : Nat) (voa : Option Addr) (vol voc : Nat) (oa : Option Addr) (ol oc : Nat) (vv : V) (l : List Cm) (hk0 : 0 ≤ ek) (hk1 : ek < 256) (hv : IsVal w w.heap.size vv ⟨vk, vn, vs, vla, vll, vlc, voa, vol, voc⟩) (ho : IsComps w w.heap.size l oa ol oc) (HS : Hid (∀ W, Below w.heap.size w W → Calls Tryd.prog 30 #[.agg #[.int .u8 ek, .int .u32 src, .int .u32 seq, .int .u8 vk, .int .i64 vn, .string vs, .slice vla vll vlc, .slice voa vol voc, .slice oa ol oc]] W fun e w' => e = .returned (.bool sd) ∧ Below W.heap.size W w')) (hsz : (encE ⟨ek, src, seq, vv, l⟩).length ≤ 70368744177664) :
    Calls Tryd.prog 13 #[.agg #[.int .u8 ek, .int .u32 src, .int .u32 seq, .int .u8 vk, .int .i64 vn, .string vs, .slice vla vll vlc, .slice voa vol voc, .slice oa ol oc]] w fun e w' => (∃ a n c, e = .returned (.tuple #[.slice a n c, .int .u16 (outN sd (encE ⟨ek, src, seq, vv, l⟩))]) ∧ IsB w' w'.heap.size a n c (outB sd (encE ⟨ek, src, seq, vv, l⟩))) ∧ Below w.heap.size w w' := by
  have bx := BX.start w #[.int .u8 ek, .int .u32 src, .int .u32 seq, .int .u8 vk, .int .i64 vn, .string vs, .slice vla vll vlc, .slice voa vol voc, .slice oa ol oc] 31
  have HV : Hid (∀ W, Below w.heap.size w W → IsVal W w.heap.size vv ⟨vk, vn, vs, vla, vll, vlc, voa, vol, voc⟩) := fun W hW => hv.keep hW
  have HO := Lib.hid ho
  have c1 := ho.cap; have c2 := ho.max; have c3 := ho.few
  have el := ho.len
  have ell : be ((ol : Int) % 18446744073709551616).toNat 4 = be l.length 4 := by rw [len_mod _ (by omega), el]
  have ELL := Lib.hid ell
  have EL := Lib.hid el
  clear ho hv ell el
  cases sd with
  | false =>
    have e1 : outN false (encE ⟨ek, src, seq, vv, l⟩) = 1 := rfl
    have e2 : outB false (encE ⟨ek, src, seq, vv, l⟩) = [] := rfl
    rw [e1, e2]
    clear e1 e2 hsz
    go_enter Tryd.func13, Tryd.ntmps13
    go_wp2_with (go_at_call 30; (with_reducible refine (HS.out _ ?_).mono ?_); (focus (have := bx.below; have := bx.size; go_grown)); rintro e w1 ⟨rfl, hb1⟩; replace bx := bx.next hb1 (by go_grown) rfl; have zs : w.heap.size < w1.heap.size := bx.size; have y0 := bx.at_ 0 _ rfl; have y1 := bx.at_ 1 _ rfl; have y2 := bx.at_ 2 _ rfl; have y3 := bx.at_ 3 _ rfl; have y4 := bx.at_ 4 _ rfl; have y5 := bx.at_ 5 _ rfl; have y6 := bx.at_ 6 _ rfl; have y7 := bx.at_ 7 _ rfl; have y8 := bx.at_ 8 _ rfl)
    go_returns
    exact ⟨⟨none, 0, 0, rfl, .nil _ _⟩, by have := bx.below; have := bx.size; go_grown⟩
  | true =>
    have he : encE ⟨ek, src, seq, vv, l⟩ = be (ek % 18446744073709551616).toNat 1 ++ be (src % 18446744073709551616).toNat 4 ++ be (seq % 18446744073709551616).toNat 4 ++ (if ek = 1 then encV vv else if ek = 2 then be l.length 4 ++ encCs l else []) := rfl
    rw [he] at hsz ⊢
    clear he
    by_cases e1 : ek = 1
    case pos =>
      subst e1
      rw [if_pos rfl] at hsz ⊢
      have hsz0 := hsz
      simp only [List.length_append, be_length] at hsz0
      go_enter Tryd.func13, Tryd.ntmps13
      go_wp2_with (first | (go_at_call 30; (with_reducible refine (HS.out _ ?_).mono ?_); (focus (have := bx.below; have := bx.size; go_grown)); rintro e w1 ⟨rfl, hb1⟩; replace bx := bx.next hb1 (by go_grown) rfl; have zs : w.heap.size < w1.heap.size := bx.size; have wx := WG.fresh bx 81; have H2 : Hid (Below w.heap.size w (w1.alloc (.cells #[.slice none 0 0] 81))) := Lib.hid (bx.below.alloc (Nat.le_of_lt zs) _); have H0 := Lib.hid wx.wrt; have hlt := bx.size; have b0 := bx.at_ 0 _ rfl; have b1 := bx.at_ 1 _ rfl; have b2 := bx.at_ 2 _ rfl; have b3 := bx.at_ 3 _ rfl; have b4 := bx.at_ 4 _ rfl; have b5 := bx.at_ 5 _ rfl; have b6 := bx.at_ 6 _ rfl; have b7 := bx.at_ 7 _ rfl; have b8 := bx.at_ 8 _ rfl; have y0 := wx.at_ 0 _ rfl; have y1 := wx.at_ 1 _ rfl; have y2 := wx.at_ 2 _ rfl; have y3 := wx.at_ 3 _ rfl; have y4 := wx.at_ 4 _ rfl; have y5 := wx.at_ 5 _ rfl; have y6 := wx.at_ 6 _ rfl; have y7 := wx.at_ 7 _ rfl; have y8 := wx.at_ 8 _ rfl) | (go_at_call 31; (with_reducible refine (layU81_any _ _ w.heap.size w1.heap.size _ _ wx.wrt ?_).mono ?_); (focus ((first | omega | (simp only [List.length_nil]; omega) | (simp only [List.length_append]; omega) | (simp only [List.length_append, List.length_nil]; omega) | (simp only [List.length_append, be_length]; omega) | (simp only [List.length_append, be_length, List.length_nil]; omega)))); rintro e w2 ⟨rfl, v2, hr2, hs2⟩; replace wx := wx.next hr2 hs2; have y0 := wx.at_ 0 _ rfl; have y1 := wx.at_ 1 _ rfl; have y2 := wx.at_ 2 _ rfl; have y3 := wx.at_ 3 _ rfl; have y4 := wx.at_ 4 _ rfl; have y5 := wx.at_ 5 _ rfl; have y6 := wx.at_ 6 _ rfl; have y7 := wx.at_ 7 _ rfl; have y8 := wx.at_ 8 _ rfl) | (go_at_call 32; (with_reducible refine (layU324_any _ _ w.heap.size w1.heap.size _ _ wx.wrt ?_).mono ?_); (focus ((first | omega | (simp only [List.length_nil]; omega) | (simp only [List.length_append]; omega) | (simp only [List.length_append, List.length_nil]; omega) | (simp only [List.length_append, be_length]; omega) | (simp only [List.length_append, be_length, List.length_nil]; omega)))); rintro e w2 ⟨rfl, v2, hr2, hs2⟩; replace wx := wx.next hr2 hs2; have y0 := wx.at_ 0 _ rfl; have y1 := wx.at_ 1 _ rfl; have y2 := wx.at_ 2 _ rfl; have y3 := wx.at_ 3 _ rfl; have y4 := wx.at_ 4 _ rfl; have y5 := wx.at_ 5 _ rfl; have y6 := wx.at_ 6 _ rfl; have y7 := wx.at_ 7 _ rfl; have y8 := wx.at_ 8 _ rfl) | (go_at_call 33; (with_reducible refine (valueX_any vv vk vn vs vla vll vlc voa vol voc _ w.heap.size w1.heap.size _ _ wx.wrt (HV.out _ (H2.out.trans (H0.out.keeps wx.st))) ?_).mono ?_); (focus ((first | omega | (simp only [List.length_nil]; omega) | (simp only [List.length_append]; omega) | (simp only [List.length_append, List.length_nil]; omega) | (simp only [List.length_append, be_length]; omega) | (simp only [List.length_append, be_length, List.length_nil]; omega)))); rintro e w2 ⟨rfl, v2, hr2, hs2⟩; replace wx := wx.next hr2 hs2; have y0 := wx.at_ 0 _ rfl; have y1 := wx.at_ 1 _ rfl; have y2 := wx.at_ 2 _ rfl; have y3 := wx.at_ 3 _ rfl; have y4 := wx.at_ 4 _ rfl; have y5 := wx.at_ 5 _ rfl; have y6 := wx.at_ 6 _ rfl; have y7 := wx.at_ 7 _ rfl; have y8 := wx.at_ 8 _ rfl) | (go_at_call 36; (with_reducible refine (done_any _ w.heap.size w1.heap.size _ _ wx.wrt ?_).mono ?_); (focus ((first | omega | (simp only [List.length_nil]; omega) | (simp only [List.length_append]; omega) | (simp only [List.length_append, List.length_nil]; omega) | (simp only [List.length_append, be_length]; omega) | (simp only [List.length_append, be_length, List.length_nil]; omega)))); rintro e w9 ⟨⟨ra, rn, rc, rfl, hI⟩, hb9⟩))
      go_returns
      simp only [List.nil_append] at hI ⊢
      exact ⟨⟨ra, rn, rc, rfl, hI⟩, by exact (H2.out.trans (H0.out.keeps wx.st)).trans (hb9.mono (by have := wx.lt; omega))⟩
    have f1 : (ek == 1) = false := by simp [e1]
    rw [if_neg e1] at hsz ⊢
    by_cases e2 : ek = 2
    case neg =>
      have f2 : (ek == 2) = false := by simp [e2]
      rw [if_neg e2] at hsz ⊢
      have hsz0 := hsz
      simp only [List.length_append, be_length, List.length_nil] at hsz0
      clear e1 e2
      go_enter Tryd.func13, Tryd.ntmps13
      go_wp2_with (first | (go_at_call 30; (with_reducible refine (HS.out _ ?_).mono ?_); (focus (have := bx.below; have := bx.size; go_grown)); rintro e w1 ⟨rfl, hb1⟩; replace bx := bx.next hb1 (by go_grown) rfl; have zs : w.heap.size < w1.heap.size := bx.size; have wx := WG.fresh bx 81; have H2 : Hid (Below w.heap.size w (w1.alloc (.cells #[.slice none 0 0] 81))) := Lib.hid (bx.below.alloc (Nat.le_of_lt zs) _); have H0 := Lib.hid wx.wrt; have hlt := bx.size; have b0 := bx.at_ 0 _ rfl; have b1 := bx.at_ 1 _ rfl; have b2 := bx.at_ 2 _ rfl; have b3 := bx.at_ 3 _ rfl; have b4 := bx.at_ 4 _ rfl; have b5 := bx.at_ 5 _ rfl; have b6 := bx.at_ 6 _ rfl; have b7 := bx.at_ 7 _ rfl; have b8 := bx.at_ 8 _ rfl; have y0 := wx.at_ 0 _ rfl; have y1 := wx.at_ 1 _ rfl; have y2 := wx.at_ 2 _ rfl; have y3 := wx.at_ 3 _ rfl; have y4 := wx.at_ 4 _ rfl; have y5 := wx.at_ 5 _ rfl; have y6 := wx.at_ 6 _ rfl; have y7 := wx.at_ 7 _ rfl; have y8 := wx.at_ 8 _ rfl) | (go_at_call 31; (with_reducible refine (layU81_any _ _ w.heap.size w1.heap.size _ _ wx.wrt ?_).mono ?_); (focus ((first | omega | (simp only [List.length_nil]; omega) | (simp only [List.length_append]; omega) | (simp only [List.length_append, List.length_nil]; omega) | (simp only [List.length_append, be_length]; omega) | (simp only [List.length_append, be_length, List.length_nil]; omega)))); rintro e w2 ⟨rfl, v2, hr2, hs2⟩; replace wx := wx.next hr2 hs2; have y0 := wx.at_ 0 _ rfl; have y1 := wx.at_ 1 _ rfl; have y2 := wx.at_ 2 _ rfl; have y3 := wx.at_ 3 _ rfl; have y4 := wx.at_ 4 _ rfl; have y5 := wx.at_ 5 _ rfl; have y6 := wx.at_ 6 _ rfl; have y7 := wx.at_ 7 _ rfl; have y8 := wx.at_ 8 _ rfl) | (go_at_call 32; (with_reducible refine (layU324_any _ _ w.heap.size w1.heap.size _ _ wx.wrt ?_).mono ?_); (focus ((first | omega | (simp only [List.length_nil]; omega) | (simp only [List.length_append]; omega) | (simp only [List.length_append, List.length_nil]; omega) | (simp only [List.length_append, be_length]; omega) | (simp only [List.length_append, be_length, List.length_nil]; omega)))); rintro e w2 ⟨rfl, v2, hr2, hs2⟩; replace wx := wx.next hr2 hs2; have y0 := wx.at_ 0 _ rfl; have y1 := wx.at_ 1 _ rfl; have y2 := wx.at_ 2 _ rfl; have y3 := wx.at_ 3 _ rfl; have y4 := wx.at_ 4 _ rfl; have y5 := wx.at_ 5 _ rfl; have y6 := wx.at_ 6 _ rfl; have y7 := wx.at_ 7 _ rfl; have y8 := wx.at_ 8 _ rfl) | (go_at_call 36; (with_reducible refine (done_any _ w.heap.size w1.heap.size _ _ wx.wrt ?_).mono ?_); (focus ((first | omega | (simp only [List.length_nil]; omega) | (simp only [List.length_append]; omega) | (simp only [List.length_append, List.length_nil]; omega) | (simp only [List.length_append, be_length]; omega) | (simp only [List.length_append, be_length, List.length_nil]; omega)))); rintro e w9 ⟨⟨ra, rn, rc, rfl, hI⟩, hb9⟩))
      go_returns
      simp only [List.nil_append, List.append_nil] at hI ⊢
      exact ⟨⟨ra, rn, rc, rfl, hI⟩, by exact (H2.out.trans (H0.out.keeps wx.st)).trans (hb9.mono (by have := wx.lt; omega))⟩
    case pos =>
      subst e2
      rw [if_pos rfl] at hsz ⊢
      have hsz0 := hsz
      simp only [List.length_append, be_length] at hsz0
      clear e1
      go_enter Tryd.func13, Tryd.ntmps13
      go_wp2_with (first | (go_at_call 30; (with_reducible refine (HS.out _ ?_).mono ?_); (focus (have := bx.below; have := bx.size; go_grown)); rintro e w1 ⟨rfl, hb1⟩; replace bx := bx.next hb1 (by go_grown) rfl; have zs : w.heap.size < w1.heap.size := bx.size; have wx := WG.fresh bx 81; have H2 : Hid (Below w.heap.size w (w1.alloc (.cells #[.slice none 0 0] 81))) := Lib.hid (bx.below.alloc (Nat.le_of_lt zs) _); have H0 := Lib.hid wx.wrt; have hlt := bx.size; have b0 := bx.at_ 0 _ rfl; have b1 := bx.at_ 1 _ rfl; have b2 := bx.at_ 2 _ rfl; have b3 := bx.at_ 3 _ rfl; have b4 := bx.at_ 4 _ rfl; have b5 := bx.at_ 5 _ rfl; have b6 := bx.at_ 6 _ rfl; have b7 := bx.at_ 7 _ rfl; have b8 := bx.at_ 8 _ rfl; have y0 := wx.at_ 0 _ rfl; have y1 := wx.at_ 1 _ rfl; have y2 := wx.at_ 2 _ rfl; have y3 := wx.at_ 3 _ rfl; have y4 := wx.at_ 4 _ rfl; have y5 := wx.at_ 5 _ rfl; have y6 := wx.at_ 6 _ rfl; have y7 := wx.at_ 7 _ rfl; have y8 := wx.at_ 8 _ rfl) | (go_at_call 31; (with_reducible refine (layU81_any _ _ w.heap.size w1.heap.size _ _ wx.wrt ?_).mono ?_); (focus ((first | omega | (simp only [List.length_nil]; omega) | (simp only [List.length_append]; omega) | (simp only [List.length_append, List.length_nil]; omega) | (simp only [List.length_append, be_length]; omega) | (simp only [List.length_append, be_length, List.length_nil]; omega)))); rintro e w2 ⟨rfl, v2, hr2, hs2⟩; replace wx := wx.next hr2 hs2; have y0 := wx.at_ 0 _ rfl; have y1 := wx.at_ 1 _ rfl; have y2 := wx.at_ 2 _ rfl; have y3 := wx.at_ 3 _ rfl; have y4 := wx.at_ 4 _ rfl; have y5 := wx.at_ 5 _ rfl; have y6 := wx.at_ 6 _ rfl; have y7 := wx.at_ 7 _ rfl; have y8 := wx.at_ 8 _ rfl) | (go_at_call 32; (with_reducible refine (layU324_any _ _ w.heap.size w1.heap.size _ _ wx.wrt ?_).mono ?_); (focus ((first | omega | (simp only [List.length_nil]; omega) | (simp only [List.length_append]; omega) | (simp only [List.length_append, List.length_nil]; omega) | (simp only [List.length_append, be_length]; omega) | (simp only [List.length_append, be_length, List.length_nil]; omega)))); rintro e w2 ⟨rfl, v2, hr2, hs2⟩; replace wx := wx.next hr2 hs2; have y0 := wx.at_ 0 _ rfl; have y1 := wx.at_ 1 _ rfl; have y2 := wx.at_ 2 _ rfl; have y3 := wx.at_ 3 _ rfl; have y4 := wx.at_ 4 _ rfl; have y5 := wx.at_ 5 _ rfl; have y6 := wx.at_ 6 _ rfl; have y7 := wx.at_ 7 _ rfl; have y8 := wx.at_ 8 _ rfl) | (go_at_call 34; (with_reducible refine (layInt4_any _ _ w.heap.size w1.heap.size _ _ wx.wrt ?_).mono ?_); (focus ((first | omega | (simp only [List.length_nil]; omega) | (simp only [List.length_append]; omega) | (simp only [List.length_append, List.length_nil]; omega) | (simp only [List.length_append, be_length]; omega) | (simp only [List.length_append, be_length, List.length_nil]; omega)))); rintro e w2 ⟨rfl, v2, hr2, hs2⟩; replace wx := wx.next hr2 hs2; have y0 := wx.at_ 0 _ rfl; have y1 := wx.at_ 1 _ rfl; have y2 := wx.at_ 2 _ rfl; have y3 := wx.at_ 3 _ rfl; have y4 := wx.at_ 4 _ rfl; have y5 := wx.at_ 5 _ rfl; have y6 := wx.at_ 6 _ rfl; have y7 := wx.at_ 7 _ rfl; have y8 := wx.at_ 8 _ rfl))
      obtain ⟨PRE, hPRE⟩ : ∃ PRE, [] ++ be ((2 : Int) % 18446744073709551616).toNat 1 ++ be (src % 18446744073709551616).toNat 4 ++ be (seq % 18446744073709551616).toNat 4 ++ be ((ol : Int) % 18446744073709551616).toNat 4 = PRE := ⟨_, rfl⟩
      rw [hPRE] at wx
      have hPL : PRE.length + (encCs l).length ≤ 140737488355328 := by rw [← hPRE]; simp only [List.length_append, be_length, List.length_nil]; omega
      have hPE : be ((2 : Int) % 18446744073709551616).toNat 1 ++ be (src % 18446744073709551616).toNat 4 ++ be (seq % 18446744073709551616).toNat 4 ++ (be l.length 4 ++ encCs l) = PRE ++ encCs l := by rw [← hPRE, ELL.out]; simp only [List.append_assoc, List.nil_append]
      rw [hPE] at hsz
      have HPE := Lib.hid hPE
      have hlt := bx.size
      have hwl : w1.heap.size < (w1.alloc (.cells #[.slice none 0 0] 81)).heap.size := by simp
      obtain ⟨W0, hW0⟩ : ∃ W0, w1.alloc (.cells #[.slice none 0 0] 81) = W0 := ⟨_, rfl⟩
      rw [hW0] at wx H2 H0 hwl
      clear hr2 hs2 hPRE hPE y0 b0 y1 b1 y2 b2 y3 b3 y4 b4 y5 b5 y6 b6 y7 b7 y8 b8
      go_loopw [42, 6] (fun ii _ wr => ∃ (k : Nat) (u : Value), k ≤ ol ∧ ii = .int .i64 k ∧ WG W0 wr w.heap.size w1.heap.size w.heap.size (.slice none 0 0) u (PRE ++ encCs (l.take k)) [.int .u8 2, .int .u32 src, .int .u32 seq, .int .u8 vk, .int .i64 vn, .string vs, .slice vla vll vlc, .slice voa vol voc, .slice oa ol oc]) (fun ii _ _ => ol - (intOf ii).toNat)
      case atStart => exact ⟨0, v2, Nat.zero_le _, rfl, by simpa [encCs] using wx⟩
      case round =>
        clear wx
        obtain ⟨k, u, hk, rfl, wx⟩ := hrel
        have y0 := wx.at_ 0 _ rfl; have y1 := wx.at_ 1 _ rfl; have y2 := wx.at_ 2 _ rfl; have y3 := wx.at_ 3 _ rfl; have y4 := wx.at_ 4 _ rfl; have y5 := wx.at_ 5 _ rfl; have y6 := wx.at_ 6 _ rfl; have y7 := wx.at_ 7 _ rfl; have y8 := wx.at_ 8 _ rfl
        by_cases hlt2 : k < ol
        · obtain ⟨b, o', f, kl, rfl, hb, x1, xb⟩ := HO.out.get hlt2
          have hbW : Below w.heap.size w wr := H2.out.trans (H0.out.keeps wx.st)
          have x1 := x1.keep hbW hb
          have r0 := x1.c0; have r1 := x1.c1; have r2 := x1.c2; have r3 := x1.c3; have r4 := x1.c4; have r5 := x1.c5; have r6 := x1.c6.c0
          have r7 : wr.cell? ⟨b, o' + k * 12 + 7, none⟩ = _ := x1.c6.c1; have r8 : wr.cell? ⟨b, o' + k * 12 + 8, none⟩ = _ := x1.c6.c2; have r9 : wr.cell? ⟨b, o' + k * 12 + 9, none⟩ = _ := x1.c6.c3; have r10 : wr.cell? ⟨b, o' + k * 12 + 10, none⟩ = _ := x1.c6.c4; have r11 := x1.c11
          have hle := encCs_le l (k + 1)
          have ht := encCs_take l k kl
          have hlen : (PRE ++ encCs (l.take k)).length + (encC l[k]).length ≤ 140737488355328 := by
            rw [ht, List.length_append] at hle; rw [List.length_append]; omega
          have HI : Hid (∀ W, Below wr.heap.size wr W → Calls Tryd.prog 35 #[.pointer (some ⟨w1.heap.size, 0, none⟩), .agg #[.int .u8 f.k, .slice f.pa f.pl f.pc, .string f.key, .int .i64 f.i, .int .i64 f.j, .int .i64 f.n, .int .u8 f.v.k, .int .i64 f.v.n, .string f.v.s, .slice f.v.la f.v.ll f.v.lc, .slice f.v.oa f.v.ol f.v.oc, .string f.s]] W fun e w' => e = .returned (.tuple #[]) ∧ ∃ v', Wr w' w.heap.size w1.heap.size v' (PRE ++ encCs (l.take (k + 1))) ∧ WStep W w' w1.heap.size u v') := by
            intro W hW
            have hBw : w.heap.size ≤ wr.heap.size := hbW.size
            have := compW_any l[k] W w.heap.size w1.heap.size u _ f (wx.wrt.of_below hW) (xb.keep (hbW.trans (hW.mono hBw))) hlen
            rw [ht, ← List.append_assoc]; exact this
          clear x1 hle ht hlen xb hbW
          go_wp2_with (go_at_call 35; refine (HI.out _ (by go_grown)).mono ?_; rintro e w2 ⟨rfl, v3, hr3, hs3⟩)
          go_roundw
          case rel => exact ⟨k + 1, v3, by omega, by go_num, (wx.behind (by go_grown)).next hr3 hs3⟩
          case measure => simp [intOf]; omega
        · have hk2 : k = ol := by omega
          have hq := wx.eqb (bs' := PRE ++ encCs l) (by rw [List.take_of_length_le (by have := EL.out; omega)])
          clear wx
          have wx := hq
          clear hq
          have hWt := wx.wrt
          go_wp2_with (go_at_call 36; (with_reducible refine (done_any _ w.heap.size w1.heap.size _ _ wx.wrt ?_).mono ?_); (focus ((first | omega | (simp only [List.length_nil]; omega) | (simp only [List.length_append]; omega) | (simp only [List.length_append, List.length_nil]; omega) | (simp only [List.length_append, be_length]; omega) | (simp only [List.length_append, be_length, List.length_nil]; omega)))); rintro e w9 ⟨⟨ra, rn, rc, rfl, hI⟩, hb9⟩)
          go_returns
          rw [HPE.out]
          exact ⟨⟨ra, rn, rc, rfl, hI⟩, by exact (H2.out.trans (H0.out.keeps wx.st)).trans (hb9.mono (by have := wx.lt; omega))⟩
end Go.Proofs.YtcfbnmobfcabiaaDoor
namespace Go.Proofs.YtcfbnmobfcabiaaDoor
open Go.RowKit

set_option maxHeartbeats 8000000 in
set_option maxRecDepth 100000 in
theorem refValue_of (sd : Bool) (w : World) (vk vn : Int) (vs : ByteArray) (vla : Option Addr) (vll vlc : Nat) (voa : Option Addr) (vol voc : Nat) (vv : V) (hv : IsVal w w.heap.size vv ⟨vk, vn, vs, vla, vll, vlc, voa, vol, voc⟩) (HS : Hid (∀ W, Below w.heap.size w W → Calls Tryd.prog 37 #[.agg #[.int .u8 vk, .int .i64 vn, .string vs, .slice vla vll vlc, .slice voa vol voc]] W fun e w' => e = .returned (.bool sd) ∧ Below W.heap.size W w')) (hsz : (encV vv).length ≤ 70368744177664) :
    Calls Tryd.prog 18 #[.agg #[.int .u8 vk, .int .i64 vn, .string vs, .slice vla vll vlc, .slice voa vol voc]] w fun e w' => (∃ a n c, e = .returned (.tuple #[.slice a n c, .int .i64 (outN sd (encV vv))]) ∧ IsB w' w'.heap.size a n c (outB sd (encV vv))) ∧ Below w.heap.size w w' := by
  have bx := BX.start w #[.int .u8 vk, .int .i64 vn, .string vs, .slice vla vll vlc, .slice voa vol voc] 28
  have HV : Hid (∀ W, Below w.heap.size w W → IsVal W w.heap.size vv ⟨vk, vn, vs, vla, vll, vlc, voa, vol, voc⟩) := fun W hW => hv.keep hW
  clear hv
  cases sd with
  | false =>
    have e1 : outN false (encV vv) = 1 := rfl
    have e2 : outB false (encV vv) = [] := rfl
    rw [e1, e2]
    clear e1 e2 hsz
    go_enter Tryd.func18, Tryd.ntmps18
    go_wp2_with (go_at_call 37; (with_reducible refine (HS.out _ ?_).mono ?_); (focus (have := bx.below; have := bx.size; go_grown)); rintro e w1 ⟨rfl, hb1⟩; replace bx := bx.next hb1 (by go_grown) rfl; have zs : w.heap.size < w1.heap.size := bx.size; have y0 := bx.at_ 0 _ rfl; have y1 := bx.at_ 1 _ rfl; have y2 := bx.at_ 2 _ rfl; have y3 := bx.at_ 3 _ rfl; have y4 := bx.at_ 4 _ rfl)
    go_returns
    exact ⟨⟨none, 0, 0, rfl, .nil _ _⟩, by have := bx.below; have := bx.size; go_grown⟩
  | true =>
    have hsz0 : (encV vv).length ≤ 140737488355328 := by omega
    by_cases hq : 60000 < (encV vv).length
    · have e1 : outN true (encV vv) = 3 := by simp only [outN, hq, if_true]
      have e2 : outB true (encV vv) = [] := by simp only [outB, hq, if_true]
      rw [e1, e2]
      have HQ := Lib.hid hq
      clear e1 e2 hq
      go_enter Tryd.func18, Tryd.ntmps18
      go_wp2_with (first | (go_at_call 37; (with_reducible refine (HS.out _ ?_).mono ?_); (focus (have := bx.below; have := bx.size; go_grown)); rintro e w1 ⟨rfl, hb1⟩; replace bx := bx.next hb1 (by go_grown) rfl; have zs : w.heap.size < w1.heap.size := bx.size; have wx := WG.fresh bx 93; have H2 : Hid (Below w.heap.size w (w1.alloc (.cells #[.slice none 0 0] 93))) := Lib.hid (bx.below.alloc (Nat.le_of_lt zs) _); have H0 := Lib.hid wx.wrt; have hlt := bx.size; have b0 := bx.at_ 0 _ rfl; have b1 := bx.at_ 1 _ rfl; have b2 := bx.at_ 2 _ rfl; have b3 := bx.at_ 3 _ rfl; have b4 := bx.at_ 4 _ rfl; have y0 := wx.at_ 0 _ rfl; have y1 := wx.at_ 1 _ rfl; have y2 := wx.at_ 2 _ rfl; have y3 := wx.at_ 3 _ rfl; have y4 := wx.at_ 4 _ rfl) | (go_at_call 42; (with_reducible refine (refValueX_any vv vk vn vs vla vll vlc voa vol voc _ w.heap.size w1.heap.size _ _ wx.wrt (HV.out _ (H2.out.trans (H0.out.keeps wx.st))) ?_).mono ?_); (focus ((first | omega | (simp only [List.length_nil]; omega) | (simp only [List.length_append]; omega) | (simp only [List.length_append, List.length_nil]; omega) | (simp only [List.length_append, be_length]; omega) | (simp only [List.length_append, be_length, List.length_nil]; omega)))); rintro e w2 ⟨rfl, v2, hr2, hs2⟩; replace wx := wx.next hr2 hs2; have y0 := wx.at_ 0 _ rfl; have y1 := wx.at_ 1 _ rfl; have y2 := wx.at_ 2 _ rfl; have y3 := wx.at_ 3 _ rfl; have y4 := wx.at_ 4 _ rfl; obtain ⟨ra, rn, rc, rfl, hI⟩ := wx.wrt.isB; have hcc := wx.wrt.cell; have HI := Lib.hid hI; have hn2 : 60000 < rn := (by have := hI.len; have := HQ.out; simp only [List.length_append, List.length_nil] at *; omega); clear hI))
      go_returns
      exact ⟨⟨none, 0, 0, rfl, .nil _ _⟩, by exact H2.out.trans (H0.out.keeps wx.st)⟩
    · have e1 : outN true (encV vv) = 0 := by simp only [outN, hq, if_true, if_false]
      have e2 : outB true (encV vv) = encV vv := by simp only [outB, hq, if_true, if_false]
      rw [e1, e2]
      have HQ := Lib.hid hq
      clear e1 e2 hq
      go_enter Tryd.func18, Tryd.ntmps18
      go_wp2_with (first | (go_at_call 37; (with_reducible refine (HS.out _ ?_).mono ?_); (focus (have := bx.below; have := bx.size; go_grown)); rintro e w1 ⟨rfl, hb1⟩; replace bx := bx.next hb1 (by go_grown) rfl; have zs : w.heap.size < w1.heap.size := bx.size; have wx := WG.fresh bx 93; have H2 : Hid (Below w.heap.size w (w1.alloc (.cells #[.slice none 0 0] 93))) := Lib.hid (bx.below.alloc (Nat.le_of_lt zs) _); have H0 := Lib.hid wx.wrt; have hlt := bx.size; have b0 := bx.at_ 0 _ rfl; have b1 := bx.at_ 1 _ rfl; have b2 := bx.at_ 2 _ rfl; have b3 := bx.at_ 3 _ rfl; have b4 := bx.at_ 4 _ rfl; have y0 := wx.at_ 0 _ rfl; have y1 := wx.at_ 1 _ rfl; have y2 := wx.at_ 2 _ rfl; have y3 := wx.at_ 3 _ rfl; have y4 := wx.at_ 4 _ rfl) | (go_at_call 42; (with_reducible refine (refValueX_any vv vk vn vs vla vll vlc voa vol voc _ w.heap.size w1.heap.size _ _ wx.wrt (HV.out _ (H2.out.trans (H0.out.keeps wx.st))) ?_).mono ?_); (focus ((first | omega | (simp only [List.length_nil]; omega) | (simp only [List.length_append]; omega) | (simp only [List.length_append, List.length_nil]; omega) | (simp only [List.length_append, be_length]; omega) | (simp only [List.length_append, be_length, List.length_nil]; omega)))); rintro e w2 ⟨rfl, v2, hr2, hs2⟩; replace wx := wx.next hr2 hs2; have y0 := wx.at_ 0 _ rfl; have y1 := wx.at_ 1 _ rfl; have y2 := wx.at_ 2 _ rfl; have y3 := wx.at_ 3 _ rfl; have y4 := wx.at_ 4 _ rfl; obtain ⟨ra, rn, rc, rfl, hI⟩ := wx.wrt.isB; have hcc := wx.wrt.cell; have HI := Lib.hid hI; have hn2 : ¬ 60000 < rn := (by have := hI.len; have := HQ.out; simp only [List.length_append, List.length_nil] at *; omega); clear hI))
      go_returns
      exact ⟨⟨ra, rn, rc, rfl, by have := HI.out; simpa using this⟩, by exact H2.out.trans (H0.out.keeps wx.st)⟩

set_option maxHeartbeats 8000000 in
set_option maxRecDepth 100000 in
theorem refEncode_of (sd : Bool) (w : World) (ek src seq vk vn : Int) (vs : ByteArray) (vla : Option Addr) (vll vlc : Nat) (voa : Option Addr) (vol voc : Nat) (oa : Option Addr) (ol oc : Nat) (vv : V) (l : List Cm) (hk0 : 0 ≤ ek) (hk1 : ek < 256) (hs0 : 0 ≤ src) (hs1 : src < 4294967296) (hq0 : 0 ≤ seq) (hq1 : seq < 4294967296) (hv : IsVal w w.heap.size vv ⟨vk, vn, vs, vla, vll, vlc, voa, vol, voc⟩) (ho : IsComps w w.heap.size l oa ol oc) (HS : Hid (∀ W, Below w.heap.size w W → Calls Tryd.prog 14 #[.agg #[.int .u8 ek, .int .u32 src, .int .u32 seq, .int .u8 vk, .int .i64 vn, .string vs, .slice vla vll vlc, .slice voa vol voc, .slice oa ol oc]] W fun e w' => e = .returned (.bool sd) ∧ Below W.heap.size W w')) (hsz : (encE ⟨ek, src, seq, vv, l⟩).length ≤ 70368744177664) :
    Calls Tryd.prog 26 #[.agg #[.int .u8 ek, .int .u32 src, .int .u32 seq, .int .u8 vk, .int .i64 vn, .string vs, .slice vla vll vlc, .slice voa vol voc, .slice oa ol oc]] w fun e w' => (∃ a n c, e = .returned (.tuple #[.slice a n c, .int .i64 (outN sd (encE ⟨ek, src, seq, vv, l⟩))]) ∧ IsB w' w'.heap.size a n c (outB sd (encE ⟨ek, src, seq, vv, l⟩))) ∧ Below w.heap.size w w' := by
  have bx := BX.start w #[.int .u8 ek, .int .u32 src, .int .u32 seq, .int .u8 vk, .int .i64 vn, .string vs, .slice vla vll vlc, .slice voa vol voc, .slice oa ol oc] 31
  have HV : Hid (∀ W, Below w.heap.size w W → IsVal W w.heap.size vv ⟨vk, vn, vs, vla, vll, vlc, voa, vol, voc⟩) := fun W hW => hv.keep hW
  have HO := Lib.hid ho
  have c1 := ho.cap; have c2 := ho.max; have c3 := ho.few
  have el := ho.len
  have ell : be ((ol : Int) % 18446744073709551616).toNat 4 = be l.length 4 := by rw [len_mod _ (by omega), el]
  have ELL := Lib.hid ell
  have EL := Lib.hid el
  clear ho hv ell el
  have u0 : IntKind.u64.wrap ek = ek := u64_id _ (by omega) (by omega)
  have u1 : IntKind.u64.wrap src = src := u64_id _ (by omega) (by omega)
  have u2 : IntKind.u64.wrap seq = seq := u64_id _ (by omega) (by omega)
  have u3 : IntKind.u64.wrap (ol : Int) = (ol : Int) := u64_id _ (by omega) (by omega)
  cases sd with
  | false =>
    have e1 : outN false (encE ⟨ek, src, seq, vv, l⟩) = 1 := rfl
    have e2 : outB false (encE ⟨ek, src, seq, vv, l⟩) = [] := rfl
    rw [e1, e2]
    clear e1 e2 hsz
    go_enter Tryd.func26, Tryd.ntmps26
    go_wp2_with (go_at_call 14; (with_reducible refine (HS.out _ ?_).mono ?_); (focus (have := bx.below; have := bx.size; go_grown)); rintro e w1 ⟨rfl, hb1⟩; replace bx := bx.next hb1 (by go_grown) rfl; have zs : w.heap.size < w1.heap.size := bx.size; have y0 := bx.at_ 0 _ rfl; have y1 := bx.at_ 1 _ rfl; have y2 := bx.at_ 2 _ rfl; have y3 := bx.at_ 3 _ rfl; have y4 := bx.at_ 4 _ rfl; have y5 := bx.at_ 5 _ rfl; have y6 := bx.at_ 6 _ rfl; have y7 := bx.at_ 7 _ rfl; have y8 := bx.at_ 8 _ rfl)
    go_returns
    exact ⟨⟨none, 0, 0, rfl, .nil _ _⟩, by have := bx.below; have := bx.size; go_grown⟩
  | true =>
    have he : encE ⟨ek, src, seq, vv, l⟩ = be (ek % 18446744073709551616).toNat 1 ++ be (src % 18446744073709551616).toNat 4 ++ be (seq % 18446744073709551616).toNat 4 ++ (if ek = 1 then encV vv else if ek = 2 then be l.length 4 ++ encCs l else []) := rfl
    rw [he] at hsz ⊢
    clear he
    by_cases e1 : ek = 1
    case pos =>
      subst e1
      rw [if_pos rfl] at hsz ⊢
      have hsz0 := hsz
      simp only [List.length_append, be_length] at hsz0
      by_cases hq : 60000 < (be ((1 : Int) % 18446744073709551616).toNat 1 ++ be (src % 18446744073709551616).toNat 4 ++ be (seq % 18446744073709551616).toNat 4 ++ encV vv).length
      · have e1 : outN true (be ((1 : Int) % 18446744073709551616).toNat 1 ++ be (src % 18446744073709551616).toNat 4 ++ be (seq % 18446744073709551616).toNat 4 ++ encV vv) = 3 := by simp only [outN, hq, if_true]
        have e2 : outB true (be ((1 : Int) % 18446744073709551616).toNat 1 ++ be (src % 18446744073709551616).toNat 4 ++ be (seq % 18446744073709551616).toNat 4 ++ encV vv) = [] := by simp only [outB, hq, if_true]
        rw [e1, e2]
        have HQ := Lib.hid hq
        clear e1 e2 hq
        go_enter Tryd.func26, Tryd.ntmps26
        go_wp2_with (first | (go_at_call 14; (with_reducible refine (HS.out _ ?_).mono ?_); (focus (have := bx.below; have := bx.size; go_grown)); rintro e w1 ⟨rfl, hb1⟩; replace bx := bx.next hb1 (by go_grown) rfl; have zs : w.heap.size < w1.heap.size := bx.size; have wx := WG.fresh bx 93; have H2 : Hid (Below w.heap.size w (w1.alloc (.cells #[.slice none 0 0] 93))) := Lib.hid (bx.below.alloc (Nat.le_of_lt zs) _); have H0 := Lib.hid wx.wrt; have hlt := bx.size; have b0 := bx.at_ 0 _ rfl; have b1 := bx.at_ 1 _ rfl; have b2 := bx.at_ 2 _ rfl; have b3 := bx.at_ 3 _ rfl; have b4 := bx.at_ 4 _ rfl; have b5 := bx.at_ 5 _ rfl; have b6 := bx.at_ 6 _ rfl; have b7 := bx.at_ 7 _ rfl; have b8 := bx.at_ 8 _ rfl; have y0 := wx.at_ 0 _ rfl; have y1 := wx.at_ 1 _ rfl; have y2 := wx.at_ 2 _ rfl; have y3 := wx.at_ 3 _ rfl; have y4 := wx.at_ 4 _ rfl; have y5 := wx.at_ 5 _ rfl; have y6 := wx.at_ 6 _ rfl; have y7 := wx.at_ 7 _ rfl; have y8 := wx.at_ 8 _ rfl) | (go_at_call 53; (with_reducible refine (number1_any _ ?_ ?_ _ w.heap.size w1.heap.size _ _ wx.wrt ?_).mono ?_); (focus omega); (focus omega); (focus ((first | omega | (simp only [List.length_nil]; omega) | (simp only [List.length_append]; omega) | (simp only [List.length_append, List.length_nil]; omega) | (simp only [List.length_append, be_length]; omega) | (simp only [List.length_append, be_length, List.length_nil]; omega)))); rintro e w2 ⟨rfl, v2, hr2, hs2⟩; replace wx := wx.next hr2 hs2; have y0 := wx.at_ 0 _ rfl; have y1 := wx.at_ 1 _ rfl; have y2 := wx.at_ 2 _ rfl; have y3 := wx.at_ 3 _ rfl; have y4 := wx.at_ 4 _ rfl; have y5 := wx.at_ 5 _ rfl; have y6 := wx.at_ 6 _ rfl; have y7 := wx.at_ 7 _ rfl; have y8 := wx.at_ 8 _ rfl) | (go_at_call 53; (with_reducible refine (number4_any _ ?_ ?_ _ w.heap.size w1.heap.size _ _ wx.wrt ?_).mono ?_); (focus omega); (focus omega); (focus ((first | omega | (simp only [List.length_nil]; omega) | (simp only [List.length_append]; omega) | (simp only [List.length_append, List.length_nil]; omega) | (simp only [List.length_append, be_length]; omega) | (simp only [List.length_append, be_length, List.length_nil]; omega)))); rintro e w2 ⟨rfl, v2, hr2, hs2⟩; replace wx := wx.next hr2 hs2; have y0 := wx.at_ 0 _ rfl; have y1 := wx.at_ 1 _ rfl; have y2 := wx.at_ 2 _ rfl; have y3 := wx.at_ 3 _ rfl; have y4 := wx.at_ 4 _ rfl; have y5 := wx.at_ 5 _ rfl; have y6 := wx.at_ 6 _ rfl; have y7 := wx.at_ 7 _ rfl; have y8 := wx.at_ 8 _ rfl) | (go_at_call 42; (with_reducible refine (refValueX_any vv vk vn vs vla vll vlc voa vol voc _ w.heap.size w1.heap.size _ _ wx.wrt (HV.out _ (H2.out.trans (H0.out.keeps wx.st))) ?_).mono ?_); (focus ((first | omega | (simp only [List.length_nil]; omega) | (simp only [List.length_append]; omega) | (simp only [List.length_append, List.length_nil]; omega) | (simp only [List.length_append, be_length]; omega) | (simp only [List.length_append, be_length, List.length_nil]; omega)))); rintro e w2 ⟨rfl, v2, hr2, hs2⟩; replace wx := wx.next hr2 hs2; have y0 := wx.at_ 0 _ rfl; have y1 := wx.at_ 1 _ rfl; have y2 := wx.at_ 2 _ rfl; have y3 := wx.at_ 3 _ rfl; have y4 := wx.at_ 4 _ rfl; have y5 := wx.at_ 5 _ rfl; have y6 := wx.at_ 6 _ rfl; have y7 := wx.at_ 7 _ rfl; have y8 := wx.at_ 8 _ rfl; obtain ⟨ra, rn, rc, rfl, hI⟩ := wx.wrt.isB; have hcc := wx.wrt.cell; have HI := Lib.hid hI; have hn2 : 60000 < rn := (by have := hI.len; have := HQ.out; simp only [List.length_append, List.length_nil] at *; omega); clear hI))
        go_returns
        exact ⟨⟨none, 0, 0, rfl, .nil _ _⟩, by exact H2.out.trans (H0.out.keeps wx.st)⟩
      · have e1 : outN true (be ((1 : Int) % 18446744073709551616).toNat 1 ++ be (src % 18446744073709551616).toNat 4 ++ be (seq % 18446744073709551616).toNat 4 ++ encV vv) = 0 := by simp only [outN, hq, if_true, if_false]
        have e2 : outB true (be ((1 : Int) % 18446744073709551616).toNat 1 ++ be (src % 18446744073709551616).toNat 4 ++ be (seq % 18446744073709551616).toNat 4 ++ encV vv) = be ((1 : Int) % 18446744073709551616).toNat 1 ++ be (src % 18446744073709551616).toNat 4 ++ be (seq % 18446744073709551616).toNat 4 ++ encV vv := by simp only [outB, hq, if_true, if_false]
        rw [e1, e2]
        have HQ := Lib.hid hq
        clear e1 e2 hq
        go_enter Tryd.func26, Tryd.ntmps26
        go_wp2_with (first | (go_at_call 14; (with_reducible refine (HS.out _ ?_).mono ?_); (focus (have := bx.below; have := bx.size; go_grown)); rintro e w1 ⟨rfl, hb1⟩; replace bx := bx.next hb1 (by go_grown) rfl; have zs : w.heap.size < w1.heap.size := bx.size; have wx := WG.fresh bx 93; have H2 : Hid (Below w.heap.size w (w1.alloc (.cells #[.slice none 0 0] 93))) := Lib.hid (bx.below.alloc (Nat.le_of_lt zs) _); have H0 := Lib.hid wx.wrt; have hlt := bx.size; have b0 := bx.at_ 0 _ rfl; have b1 := bx.at_ 1 _ rfl; have b2 := bx.at_ 2 _ rfl; have b3 := bx.at_ 3 _ rfl; have b4 := bx.at_ 4 _ rfl; have b5 := bx.at_ 5 _ rfl; have b6 := bx.at_ 6 _ rfl; have b7 := bx.at_ 7 _ rfl; have b8 := bx.at_ 8 _ rfl; have y0 := wx.at_ 0 _ rfl; have y1 := wx.at_ 1 _ rfl; have y2 := wx.at_ 2 _ rfl; have y3 := wx.at_ 3 _ rfl; have y4 := wx.at_ 4 _ rfl; have y5 := wx.at_ 5 _ rfl; have y6 := wx.at_ 6 _ rfl; have y7 := wx.at_ 7 _ rfl; have y8 := wx.at_ 8 _ rfl) | (go_at_call 53; (with_reducible refine (number1_any _ ?_ ?_ _ w.heap.size w1.heap.size _ _ wx.wrt ?_).mono ?_); (focus omega); (focus omega); (focus ((first | omega | (simp only [List.length_nil]; omega) | (simp only [List.length_append]; omega) | (simp only [List.length_append, List.length_nil]; omega) | (simp only [List.length_append, be_length]; omega) | (simp only [List.length_append, be_length, List.length_nil]; omega)))); rintro e w2 ⟨rfl, v2, hr2, hs2⟩; replace wx := wx.next hr2 hs2; have y0 := wx.at_ 0 _ rfl; have y1 := wx.at_ 1 _ rfl; have y2 := wx.at_ 2 _ rfl; have y3 := wx.at_ 3 _ rfl; have y4 := wx.at_ 4 _ rfl; have y5 := wx.at_ 5 _ rfl; have y6 := wx.at_ 6 _ rfl; have y7 := wx.at_ 7 _ rfl; have y8 := wx.at_ 8 _ rfl) | (go_at_call 53; (with_reducible refine (number4_any _ ?_ ?_ _ w.heap.size w1.heap.size _ _ wx.wrt ?_).mono ?_); (focus omega); (focus omega); (focus ((first | omega | (simp only [List.length_nil]; omega) | (simp only [List.length_append]; omega) | (simp only [List.length_append, List.length_nil]; omega) | (simp only [List.length_append, be_length]; omega) | (simp only [List.length_append, be_length, List.length_nil]; omega)))); rintro e w2 ⟨rfl, v2, hr2, hs2⟩; replace wx := wx.next hr2 hs2; have y0 := wx.at_ 0 _ rfl; have y1 := wx.at_ 1 _ rfl; have y2 := wx.at_ 2 _ rfl; have y3 := wx.at_ 3 _ rfl; have y4 := wx.at_ 4 _ rfl; have y5 := wx.at_ 5 _ rfl; have y6 := wx.at_ 6 _ rfl; have y7 := wx.at_ 7 _ rfl; have y8 := wx.at_ 8 _ rfl) | (go_at_call 42; (with_reducible refine (refValueX_any vv vk vn vs vla vll vlc voa vol voc _ w.heap.size w1.heap.size _ _ wx.wrt (HV.out _ (H2.out.trans (H0.out.keeps wx.st))) ?_).mono ?_); (focus ((first | omega | (simp only [List.length_nil]; omega) | (simp only [List.length_append]; omega) | (simp only [List.length_append, List.length_nil]; omega) | (simp only [List.length_append, be_length]; omega) | (simp only [List.length_append, be_length, List.length_nil]; omega)))); rintro e w2 ⟨rfl, v2, hr2, hs2⟩; replace wx := wx.next hr2 hs2; have y0 := wx.at_ 0 _ rfl; have y1 := wx.at_ 1 _ rfl; have y2 := wx.at_ 2 _ rfl; have y3 := wx.at_ 3 _ rfl; have y4 := wx.at_ 4 _ rfl; have y5 := wx.at_ 5 _ rfl; have y6 := wx.at_ 6 _ rfl; have y7 := wx.at_ 7 _ rfl; have y8 := wx.at_ 8 _ rfl; obtain ⟨ra, rn, rc, rfl, hI⟩ := wx.wrt.isB; have hcc := wx.wrt.cell; have HI := Lib.hid hI; have hn2 : ¬ 60000 < rn := (by have := hI.len; have := HQ.out; simp only [List.length_append, List.length_nil] at *; omega); clear hI))
        go_returns
        exact ⟨⟨ra, rn, rc, rfl, by have := HI.out; simpa using this⟩, by exact H2.out.trans (H0.out.keeps wx.st)⟩
    have f1 : (ek == 1) = false := by simp [e1]
    rw [if_neg e1] at hsz ⊢
    by_cases e2 : ek = 2
    case neg =>
      have f2 : (ek == 2) = false := by simp [e2]
      rw [if_neg e2] at hsz ⊢
      have hsz0 := hsz
      simp only [List.length_append, be_length, List.length_nil] at hsz0
      clear e1 e2
      by_cases hq : 60000 < (be (ek % 18446744073709551616).toNat 1 ++ be (src % 18446744073709551616).toNat 4 ++ be (seq % 18446744073709551616).toNat 4 ++ []).length
      · exfalso; simp only [List.length_append, be_length, List.length_nil] at hq; omega
      · have e1 : outN true (be (ek % 18446744073709551616).toNat 1 ++ be (src % 18446744073709551616).toNat 4 ++ be (seq % 18446744073709551616).toNat 4 ++ []) = 0 := by simp only [outN, hq, if_true, if_false]
        have e2 : outB true (be (ek % 18446744073709551616).toNat 1 ++ be (src % 18446744073709551616).toNat 4 ++ be (seq % 18446744073709551616).toNat 4 ++ []) = be (ek % 18446744073709551616).toNat 1 ++ be (src % 18446744073709551616).toNat 4 ++ be (seq % 18446744073709551616).toNat 4 ++ [] := by simp only [outB, hq, if_true, if_false]
        rw [e1, e2]
        have HQ := Lib.hid hq
        clear e1 e2 hq
        go_enter Tryd.func26, Tryd.ntmps26
        go_wp2_with (first | (go_at_call 14; (with_reducible refine (HS.out _ ?_).mono ?_); (focus (have := bx.below; have := bx.size; go_grown)); rintro e w1 ⟨rfl, hb1⟩; replace bx := bx.next hb1 (by go_grown) rfl; have zs : w.heap.size < w1.heap.size := bx.size; have wx := WG.fresh bx 93; have H2 : Hid (Below w.heap.size w (w1.alloc (.cells #[.slice none 0 0] 93))) := Lib.hid (bx.below.alloc (Nat.le_of_lt zs) _); have H0 := Lib.hid wx.wrt; have hlt := bx.size; have b0 := bx.at_ 0 _ rfl; have b1 := bx.at_ 1 _ rfl; have b2 := bx.at_ 2 _ rfl; have b3 := bx.at_ 3 _ rfl; have b4 := bx.at_ 4 _ rfl; have b5 := bx.at_ 5 _ rfl; have b6 := bx.at_ 6 _ rfl; have b7 := bx.at_ 7 _ rfl; have b8 := bx.at_ 8 _ rfl; have y0 := wx.at_ 0 _ rfl; have y1 := wx.at_ 1 _ rfl; have y2 := wx.at_ 2 _ rfl; have y3 := wx.at_ 3 _ rfl; have y4 := wx.at_ 4 _ rfl; have y5 := wx.at_ 5 _ rfl; have y6 := wx.at_ 6 _ rfl; have y7 := wx.at_ 7 _ rfl; have y8 := wx.at_ 8 _ rfl) | (go_at_call 53; (with_reducible refine (number1_any _ ?_ ?_ _ w.heap.size w1.heap.size _ _ wx.wrt ?_).mono ?_); (focus omega); (focus omega); (focus ((first | omega | (simp only [List.length_nil]; omega) | (simp only [List.length_append]; omega) | (simp only [List.length_append, List.length_nil]; omega) | (simp only [List.length_append, be_length]; omega) | (simp only [List.length_append, be_length, List.length_nil]; omega)))); rintro e w2 ⟨rfl, v2, hr2, hs2⟩; replace wx := wx.next hr2 hs2; have y0 := wx.at_ 0 _ rfl; have y1 := wx.at_ 1 _ rfl; have y2 := wx.at_ 2 _ rfl; have y3 := wx.at_ 3 _ rfl; have y4 := wx.at_ 4 _ rfl; have y5 := wx.at_ 5 _ rfl; have y6 := wx.at_ 6 _ rfl; have y7 := wx.at_ 7 _ rfl; have y8 := wx.at_ 8 _ rfl) | (go_at_call 53; (with_reducible refine (number4_any src ?_ ?_ _ w.heap.size w1.heap.size _ _ wx.wrt ?_).mono ?_); (focus omega); (focus omega); (focus ((first | omega | (simp only [List.length_nil]; omega) | (simp only [List.length_append]; omega) | (simp only [List.length_append, List.length_nil]; omega) | (simp only [List.length_append, be_length]; omega) | (simp only [List.length_append, be_length, List.length_nil]; omega)))); rintro e w2 ⟨rfl, v2, hr2, hs2⟩; replace wx := wx.next hr2 hs2; have y0 := wx.at_ 0 _ rfl; have y1 := wx.at_ 1 _ rfl; have y2 := wx.at_ 2 _ rfl; have y3 := wx.at_ 3 _ rfl; have y4 := wx.at_ 4 _ rfl; have y5 := wx.at_ 5 _ rfl; have y6 := wx.at_ 6 _ rfl; have y7 := wx.at_ 7 _ rfl; have y8 := wx.at_ 8 _ rfl) | (go_at_call 53; (with_reducible refine (number4_any seq ?_ ?_ _ w.heap.size w1.heap.size _ _ wx.wrt ?_).mono ?_); (focus omega); (focus omega); (focus ((first | omega | (simp only [List.length_nil]; omega) | (simp only [List.length_append]; omega) | (simp only [List.length_append, List.length_nil]; omega) | (simp only [List.length_append, be_length]; omega) | (simp only [List.length_append, be_length, List.length_nil]; omega)))); rintro e w2 ⟨rfl, v2, hr2, hs2⟩; replace wx := wx.next hr2 hs2; have y0 := wx.at_ 0 _ rfl; have y1 := wx.at_ 1 _ rfl; have y2 := wx.at_ 2 _ rfl; have y3 := wx.at_ 3 _ rfl; have y4 := wx.at_ 4 _ rfl; have y5 := wx.at_ 5 _ rfl; have y6 := wx.at_ 6 _ rfl; have y7 := wx.at_ 7 _ rfl; have y8 := wx.at_ 8 _ rfl; obtain ⟨ra, rn, rc, rfl, hI⟩ := wx.wrt.isB; have hcc := wx.wrt.cell; have HI := Lib.hid hI; have hn2 : ¬ 60000 < rn := (by have := hI.len; have := HQ.out; simp only [List.length_append, List.length_nil] at *; omega); clear hI))
        go_returns
        exact ⟨⟨ra, rn, rc, rfl, by have := HI.out; simpa using this⟩, by exact H2.out.trans (H0.out.keeps wx.st)⟩
    case pos =>
      subst e2
      rw [if_pos rfl] at hsz ⊢
      have hsz0 := hsz
      simp only [List.length_append, be_length] at hsz0
      clear e1
      go_enter Tryd.func26, Tryd.ntmps26
      go_wp2_with (first | (go_at_call 14; (with_reducible refine (HS.out _ ?_).mono ?_); (focus (have := bx.below; have := bx.size; go_grown)); rintro e w1 ⟨rfl, hb1⟩; replace bx := bx.next hb1 (by go_grown) rfl; have zs : w.heap.size < w1.heap.size := bx.size; have wx := WG.fresh bx 93; have H2 : Hid (Below w.heap.size w (w1.alloc (.cells #[.slice none 0 0] 93))) := Lib.hid (bx.below.alloc (Nat.le_of_lt zs) _); have H0 := Lib.hid wx.wrt; have hlt := bx.size; have b0 := bx.at_ 0 _ rfl; have b1 := bx.at_ 1 _ rfl; have b2 := bx.at_ 2 _ rfl; have b3 := bx.at_ 3 _ rfl; have b4 := bx.at_ 4 _ rfl; have b5 := bx.at_ 5 _ rfl; have b6 := bx.at_ 6 _ rfl; have b7 := bx.at_ 7 _ rfl; have b8 := bx.at_ 8 _ rfl; have y0 := wx.at_ 0 _ rfl; have y1 := wx.at_ 1 _ rfl; have y2 := wx.at_ 2 _ rfl; have y3 := wx.at_ 3 _ rfl; have y4 := wx.at_ 4 _ rfl; have y5 := wx.at_ 5 _ rfl; have y6 := wx.at_ 6 _ rfl; have y7 := wx.at_ 7 _ rfl; have y8 := wx.at_ 8 _ rfl) | (go_at_call 53; (with_reducible refine (number1_any _ ?_ ?_ _ w.heap.size w1.heap.size _ _ wx.wrt ?_).mono ?_); (focus omega); (focus omega); (focus ((first | omega | (simp only [List.length_nil]; omega) | (simp only [List.length_append]; omega) | (simp only [List.length_append, List.length_nil]; omega) | (simp only [List.length_append, be_length]; omega) | (simp only [List.length_append, be_length, List.length_nil]; omega)))); rintro e w2 ⟨rfl, v2, hr2, hs2⟩; replace wx := wx.next hr2 hs2; have y0 := wx.at_ 0 _ rfl; have y1 := wx.at_ 1 _ rfl; have y2 := wx.at_ 2 _ rfl; have y3 := wx.at_ 3 _ rfl; have y4 := wx.at_ 4 _ rfl; have y5 := wx.at_ 5 _ rfl; have y6 := wx.at_ 6 _ rfl; have y7 := wx.at_ 7 _ rfl; have y8 := wx.at_ 8 _ rfl) | (go_at_call 53; (with_reducible refine (number4_any _ ?_ ?_ _ w.heap.size w1.heap.size _ _ wx.wrt ?_).mono ?_); (focus omega); (focus omega); (focus ((first | omega | (simp only [List.length_nil]; omega) | (simp only [List.length_append]; omega) | (simp only [List.length_append, List.length_nil]; omega) | (simp only [List.length_append, be_length]; omega) | (simp only [List.length_append, be_length, List.length_nil]; omega)))); rintro e w2 ⟨rfl, v2, hr2, hs2⟩; replace wx := wx.next hr2 hs2; have y0 := wx.at_ 0 _ rfl; have y1 := wx.at_ 1 _ rfl; have y2 := wx.at_ 2 _ rfl; have y3 := wx.at_ 3 _ rfl; have y4 := wx.at_ 4 _ rfl; have y5 := wx.at_ 5 _ rfl; have y6 := wx.at_ 6 _ rfl; have y7 := wx.at_ 7 _ rfl; have y8 := wx.at_ 8 _ rfl))
      obtain ⟨PRE, hPRE⟩ : ∃ PRE, [] ++ be ((2 : Int) % 18446744073709551616).toNat 1 ++ be (src % 18446744073709551616).toNat 4 ++ be (seq % 18446744073709551616).toNat 4 ++ be ((ol : Int) % 18446744073709551616).toNat 4 = PRE := ⟨_, rfl⟩
      rw [hPRE] at wx
      have hPL : PRE.length + (encCs l).length ≤ 140737488355328 := by rw [← hPRE]; simp only [List.length_append, be_length, List.length_nil]; omega
      have hPE : be ((2 : Int) % 18446744073709551616).toNat 1 ++ be (src % 18446744073709551616).toNat 4 ++ be (seq % 18446744073709551616).toNat 4 ++ (be l.length 4 ++ encCs l) = PRE ++ encCs l := by rw [← hPRE, ELL.out]; simp only [List.append_assoc, List.nil_append]
      rw [hPE] at hsz
      have HPE := Lib.hid hPE
      have hlt := bx.size
      have hwl : w1.heap.size < (w1.alloc (.cells #[.slice none 0 0] 93)).heap.size := by simp
      obtain ⟨W0, hW0⟩ : ∃ W0, w1.alloc (.cells #[.slice none 0 0] 93) = W0 := ⟨_, rfl⟩
      rw [hW0] at wx H2 H0 hwl
      clear hr2 hs2 hPRE hPE y0 b0 y1 b1 y2 b2 y3 b3 y4 b4 y5 b5 y6 b6 y7 b7 y8 b8
      go_loopw [6] (fun ii wr => ∃ (k : Nat) (u : Value), k ≤ ol ∧ ii = .int .i64 k ∧ WG W0 wr w.heap.size w1.heap.size w.heap.size (.slice none 0 0) u (PRE ++ encCs (l.take k)) [.int .u8 2, .int .u32 src, .int .u32 seq, .int .u8 vk, .int .i64 vn, .string vs, .slice vla vll vlc, .slice voa vol voc, .slice oa ol oc]) (fun ii _ => ol - (intOf ii).toNat)
      case atStart => exact ⟨0, v2, Nat.zero_le _, rfl, by simpa [encCs] using wx⟩
      case round =>
        clear wx
        obtain ⟨k, u, hk, rfl, wx⟩ := hrel
        have y0 := wx.at_ 0 _ rfl; have y1 := wx.at_ 1 _ rfl; have y2 := wx.at_ 2 _ rfl; have y3 := wx.at_ 3 _ rfl; have y4 := wx.at_ 4 _ rfl; have y5 := wx.at_ 5 _ rfl; have y6 := wx.at_ 6 _ rfl; have y7 := wx.at_ 7 _ rfl; have y8 := wx.at_ 8 _ rfl
        by_cases hlt2 : k < ol
        · obtain ⟨b, o', f, kl, rfl, hb, x1, xb⟩ := HO.out.get hlt2
          have hbW : Below w.heap.size w wr := H2.out.trans (H0.out.keeps wx.st)
          have x1 := x1.keep hbW hb
          have r0 := x1.c0; have r1 := x1.c1; have r2 := x1.c2; have r3 := x1.c3; have r4 := x1.c4; have r5 := x1.c5; have r6 := x1.c6.c0
          have r7 : wr.cell? ⟨b, o' + k * 12 + 7, none⟩ = _ := x1.c6.c1; have r8 : wr.cell? ⟨b, o' + k * 12 + 8, none⟩ = _ := x1.c6.c2; have r9 : wr.cell? ⟨b, o' + k * 12 + 9, none⟩ = _ := x1.c6.c3; have r10 : wr.cell? ⟨b, o' + k * 12 + 10, none⟩ = _ := x1.c6.c4; have r11 := x1.c11
          have hle := encCs_le l (k + 1)
          have ht := encCs_take l k kl
          have hlen : (PRE ++ encCs (l.take k)).length + (encC l[k]).length ≤ 140737488355328 := by
            rw [ht, List.length_append] at hle; rw [List.length_append]; omega
          have HI : Hid (∀ W, Below wr.heap.size wr W → Calls Tryd.prog 54 #[.pointer (some ⟨w1.heap.size, 0, none⟩), .agg #[.int .u8 f.k, .slice f.pa f.pl f.pc, .string f.key, .int .i64 f.i, .int .i64 f.j, .int .i64 f.n, .int .u8 f.v.k, .int .i64 f.v.n, .string f.v.s, .slice f.v.la f.v.ll f.v.lc, .slice f.v.oa f.v.ol f.v.oc, .string f.s]] W fun e w' => e = .returned (.tuple #[]) ∧ ∃ v', Wr w' w.heap.size w1.heap.size v' (PRE ++ encCs (l.take (k + 1))) ∧ WStep W w' w1.heap.size u v') := by
            intro W hW
            have hBw : w.heap.size ≤ wr.heap.size := hbW.size
            have := refCompW_any l[k] W w.heap.size w1.heap.size u _ f (wx.wrt.of_below hW) (xb.keep (hbW.trans (hW.mono hBw))) hlen
            rw [ht, ← List.append_assoc]; exact this
          clear x1 hle ht hlen xb hbW
          go_wp2_with (go_at_call 54; refine (HI.out _ (by go_grown)).mono ?_; rintro e w2 ⟨rfl, v3, hr3, hs3⟩)
          go_roundw
          case rel => exact ⟨k + 1, v3, by omega, by go_num, (wx.behind (by go_grown)).next hr3 hs3⟩
          case measure => simp [intOf]; omega
        · have hk2 : k = ol := by omega
          have hq := wx.eqb (bs' := PRE ++ encCs l) (by rw [List.take_of_length_le (by have := EL.out; omega)])
          clear wx
          have wx := hq
          clear hq
          have hWt := wx.wrt
          obtain ⟨ra, rn, rc, rfl, hI⟩ := hWt.isB
          have hcc := hWt.cell
          have hn := hI.len
          have HI := Lib.hid hI
          have HWX := Lib.hid wx
          by_cases hq : 60000 < (PRE ++ encCs l).length
          · have e1 : outN true (PRE ++ encCs l) = 3 := by simp only [outN, hq, if_true]
            have e2 : outB true (PRE ++ encCs l) = [] := by simp only [outB, hq, if_true]
            have E1 := Lib.hid e1
            have E2 := Lib.hid e2
            have hn2 : 60000 < rn := by omega
            clear e1 e2 hI hWt wx hn hq
            go_wp2_with fail
            go_returns
            rw [HPE.out, E1.out, E2.out]
            exact ⟨⟨none, 0, 0, rfl, .nil _ _⟩, by exact H2.out.trans (H0.out.keeps HWX.out.st)⟩
          · have e1 : outN true (PRE ++ encCs l) = 0 := by simp only [outN, hq, if_true, if_false]
            have e2 : outB true (PRE ++ encCs l) = PRE ++ encCs l := by simp only [outB, hq, if_true, if_false]
            have E1 := Lib.hid e1
            have E2 := Lib.hid e2
            have hn2 : ¬ 60000 < rn := by omega
            clear e1 e2 hI hWt wx hn hq
            go_wp2_with fail
            go_returns
            rw [HPE.out, E1.out, E2.out]
            exact ⟨⟨ra, rn, rc, rfl, HI.out⟩, by exact H2.out.trans (H0.out.keeps HWX.out.st)⟩
end Go.Proofs.YtcfbnmobfcabiaaDoor
