/-
  CodeOnly: for every slice of bytes the law returns true and the slice reads as it did. Conditions: Go's two UTF-8 tables are what the program's text lays (the card ties them).
-/
import Derived.Test.YtcfbnmobfcabiaaDoorP12
import Derived.Test.YtcfbnmobfcabiaaDoorRows
import Derived.Test.YtcfbnmobfcabiaaDoorCards
import Derived.Test.YtcfbnmobfcabiaaDoorTie
import Derived.PinnedBridge
import Derived.Lib.LaidIn
import Derived.Lib.LaidU8T
import Derived.Deep.DeepHandedRow
import Derived.Deep.DeepWitnessRowRef
import Derived.ProofKit
import Derived.SizedLaws
import Derived.SevenTiedAt
namespace Go.Proofs.YtcfbnmobfcabiaaDoor
open Go.RowKit
theorem light_later (w : World) (hT : Tabs w) (v : V) (hs : lightB v = true) (hw : v.weight ≤ 4611686018427387904) : Hid (∀ W5, Below w.heap.size w W5 → ∀ cv : VC, IsVal W5 W5.heap.size v cv → Hid (∀ W, Below W5.heap.size W5 W → Calls Tryd.prog 39 #[.agg #[.int .u8 cv.k, .int .i64 cv.n, .string cv.s, .slice cv.la cv.ll cv.lc, .slice cv.oa cv.ol cv.oc]] W fun e w' => e = .returned (.bool true) ∧ Below W.heap.size W w')) := fun W5 hb cv hv W hW => by
  have := light_any v W ((hT.below hb).below hW) cv (hv.later_ hW) hw
  rw [hs] at this; exact this
theorem sound_later (w : World) (hT : Tabs w) (x : En) (hs : enSound x = true) (hw : x.small) : Hid (∀ W5, Below w.heap.size w W5 → ∀ c : EC, IsEntry W5 W5.heap.size x c → Hid (∀ W, Below W5.heap.size W5 W → Calls Tryd.prog 30 #[.agg #[.int .u8 c.k, .int .u32 c.src, .int .u32 c.seq, .int .u8 c.v.k, .int .i64 c.v.n, .string c.v.s, .slice c.v.la c.v.ll c.v.lc, .slice c.v.oa c.v.ol c.v.oc, .slice c.oa c.ol c.oc]] W fun e w' => e = .returned (.bool true) ∧ Below W.heap.size W w')) := fun W5 hb c hv W hW => by
  have := enSound_any x W ((hT.below hb).below hW) c (hv.later_ hW) hw
  rw [hs] at this; exact this
theorem refSound_true (w : World) (hT : Tabs w) (x : En) (c : EC) (hx : IsEntry w w.heap.size x c) (hs : enSound x = true) (hw : x.small) : Calls Tryd.prog 14 #[.agg #[.int .u8 c.k, .int .u32 c.src, .int .u32 c.seq, .int .u8 c.v.k, .int .i64 c.v.n, .string c.v.s, .slice c.v.la c.v.ll c.v.lc, .slice c.v.oa c.v.ol c.v.oc, .slice c.oa c.ol c.oc]] w fun e w' => e = .returned (.bool true) ∧ Below w.heap.size w w' := by
  have := refEnSound_any x w hT c hx hw
  rw [hs] at this; exact this
theorem refSoundV_true (w : World) (hT : Tabs w) (v : V) (c : VC) (hv : IsVal w w.heap.size v c) (hs : v.sound = true) : Calls Tryd.prog 16 #[.agg #[.int .u8 c.k, .int .i64 c.n, .string c.s, .slice c.la c.ll c.lc, .slice c.oa c.ol c.oc]] w fun e w' => e = .returned (.bool true) ∧ Below w.heap.size w w' := by
  have := refSound_any v w c hv hT
  rw [hs] at this; exact this
set_option maxHeartbeats 8000000 in
set_option maxRecDepth 100000 in
theorem codeOnly_11 (w : World) (hT : Tabs w) (a : Option Addr) (n c : Nat) (bs : List UInt8) (h : IsB w w.heap.size a n c bs) (hn : n ≤ 4000) (x : En) (e : Int) (v : V) (f : Int) (he : backE bs = (x, e)) (hf : backR bs = (v, f)) (h1 : e = 0) (h2 : f = 0) :
    Calls Tryd.prog 4 #[.slice a n c] w fun e w' => e = .returned (.bool true) ∧ Below w.heap.size w w' := by
  have hlen := h.len
  have hmax : bs.length ≤ 281474976710656 := by omega
  have hn2 : ¬ 4000 < n := by omega
  have HT := Lib.hid hT
  have HI := Lib.hid h
  subst h1
  obtain ⟨q1, q2, q3, r1, q4⟩ := backE_ok he
  obtain ⟨l1, l2, l3⟩ := rdE_len q4
  have hsm : x.small := ⟨by omega, fun y hy => by have := l3 y hy; omega⟩
  have hszE : (encE x).length ≤ 70368744177664 := by omega
  have HES := Lib.hid (sound_later w hT x q1 hsm)
  have HEN : Hid (outN true (encE x) = 0) := by show outN _ _ = 0; rw [outN, if_pos rfl, if_neg (by omega)]
  have HEB : Hid (outB true (encE x) = bs) := by show outB _ _ = bs; rw [outB, if_pos rfl, if_neg (by omega), q2]
  have HSE := Lib.hid q1
  have HSM := Lib.hid hsm
  clear l3 hsm q1 q2 q4
  subst h2
  obtain ⟨u1, u2, u3, r2, u4⟩ := backR_ok hf
  obtain ⟨m1, m2⟩ := rdV_len 18 bs v r2 u4
  have hszV : (encV v).length ≤ 70368744177664 := by omega
  have HLV := Lib.hid (light_later w hT v u1 (by omega))
  have HVN : Hid (outN true (encV v) = 0) := by show outN _ _ = 0; rw [outN, if_pos rfl, if_neg (by omega)]
  have HVB : Hid (outB true (encV v) = bs) := by show outB _ _ = bs; rw [outB, if_pos rfl, if_neg (by omega), u2]
  have hsv : v.sound = true := by
    unfold lightB at u1
    simp only [Bool.and_eq_true] at u1
    exact u1.1.1
  have HSV := Lib.hid hsv
  clear hsv u1 u2 u4
  have HE := Lib.hid he
  have HV := Lib.hid hf
  clear he hf h hT hlen hn
  go_enter Tryd.func4, Tryd.ntmps4
  go_wp2_with (first | (go_at_call 6; refine (known_any w HT.out).mono ?_; rintro ek wk ⟨rfl, hbk⟩; have HBK := Lib.hid hbk; clear hbk) | (go_at_call 7; refine (backE_any wk (HT.out.below HBK.out) a n c bs ((HI.out.keep HBK.out).more HBK.out.size) hmax HE.out).mono ?_; rintro ee w2 ⟨⟨cx, rfl, hIx⟩, hb2⟩; have HX2 := Lib.hid hIx; have HB2 := Lib.hid (HBK.out.trans (hb2.mono HBK.out.size)); clear hIx hb2) | (go_at_call 9; refine (backR_any _ (HT.out.below (HB2.out.alloc HB2.out.size _)) a n c bs ((HI.out.keep (HB2.out.alloc HB2.out.size _)).more (HB2.out.alloc HB2.out.size _).size) hmax HV.out).mono ?_; rintro ee w3 ⟨⟨cv, rfl, hIv⟩, hb3⟩; have HV3 := Lib.hid hIv; have b23 : Below w2.heap.size w2 w3 := ((Below.refl _ _).alloc (Nat.le_refl _) _).trans (hb3.mono (by simp)); have zs3 : w2.heap.size < w3.heap.size := Nat.lt_of_lt_of_le (by simp) hb3.size; have HX3 := Lib.hid (HX2.out.later_ b23); have HO3 := Lib.hid ((BC.start w2 #[.int .u8 cx.k, .int .u32 cx.src, .int .u32 cx.seq, .int .u8 cx.v.k, .int .i64 cx.v.n, .string cx.v.s, .slice cx.v.la cx.v.ll cx.v.lc, .slice cx.v.oa cx.v.ol cx.v.oc, .slice cx.oa cx.ol cx.oc] 31).keep hb3 (by simp)); have HB3 := Lib.hid (HB2.out.trans (b23.mono HB2.out.size)); have o0 := HO3.out.at_ 0 _ rfl; have o1 := HO3.out.at_ 1 _ rfl; have o2 := HO3.out.at_ 2 _ rfl; have o3 := HO3.out.at_ 3 _ rfl; have o4 := HO3.out.at_ 4 _ rfl; have o5 := HO3.out.at_ 5 _ rfl; have o6 := HO3.out.at_ 6 _ rfl; have o7 := HO3.out.at_ 7 _ rfl; have o8 := HO3.out.at_ 8 _ rfl; clear hIv hb3 b23) | (go_at_call 13; have b3a : Below w3.heap.size w3 (w3.alloc (.cells #[.int .u8 cv.k, .int .i64 cv.n, .string cv.s, .slice cv.la cv.ll cv.lc, .slice cv.oa cv.ol cv.oc] 28)) := (Below.refl _ _).alloc (Nat.le_refl _) _; have hx4 := HX3.out.later_ b3a; refine (encode_e true _ cx x hx4 (HES.out _ (HB3.out.trans (b3a.mono HB3.out.size)) cx hx4) hszE).mono ?_; rw [HEB.out, HEN.out]; rintro ee w4 ⟨⟨ra, rn, rc, rfl, hIc⟩, hb4⟩; have b34 := b3a.trans (hb4.mono b3a.size); have HX4 := Lib.hid (HX3.out.later_ b34); have zs4 : w3.heap.size < w4.heap.size := Nat.lt_of_lt_of_le (by simp) hb4.size; have HV4 := Lib.hid (HV3.out.later_ b34); have HO4 := Lib.hid (HO3.out.keep b34 zs3); have HP4 := Lib.hid ((BC.start w3 #[.int .u8 cv.k, .int .i64 cv.n, .string cv.s, .slice cv.la cv.ll cv.lc, .slice cv.oa cv.ol cv.oc] 28).keep hb4 (by simp)); have HB4 := Lib.hid (HB3.out.trans (b34.mono HB3.out.size)); have k1 := conv_isB hIc; have k2 := conv_isB (HI.out.keep HB4.out); have o0 := HO4.out.at_ 0 _ rfl; have o1 := HO4.out.at_ 1 _ rfl; have o2 := HO4.out.at_ 2 _ rfl; have o3 := HO4.out.at_ 3 _ rfl; have o4 := HO4.out.at_ 4 _ rfl; have o5 := HO4.out.at_ 5 _ rfl; have o6 := HO4.out.at_ 6 _ rfl; have o7 := HO4.out.at_ 7 _ rfl; have o8 := HO4.out.at_ 8 _ rfl; have p0 := HP4.out.at_ 0 _ rfl; have p1 := HP4.out.at_ 1 _ rfl; have p2 := HP4.out.at_ 2 _ rfl; have p3 := HP4.out.at_ 3 _ rfl; have p4 := HP4.out.at_ 4 _ rfl; clear hIc hb4 b34 b3a hx4) | (go_at_call 14; refine (refSound_true w4 (HT.out.below HB4.out) x cx HX4.out HSE.out HSM.out).mono ?_; rintro ee w5 ⟨rfl, hb5⟩; have zs5 : w3.heap.size < w5.heap.size := Nat.lt_of_lt_of_le zs4 hb5.size; have HV5 := Lib.hid (HV4.out.later_ hb5); have HP5 := Lib.hid (HP4.out.keep hb5 zs4); have HB5 := Lib.hid (HB4.out.trans (hb5.mono HB4.out.size)); have p0 := HP5.out.at_ 0 _ rfl; have p1 := HP5.out.at_ 1 _ rfl; have p2 := HP5.out.at_ 2 _ rfl; have p3 := HP5.out.at_ 3 _ rfl; have p4 := HP5.out.at_ 4 _ rfl; clear hb5) | (go_at_call 15; have hv6 := HV5.out; have b6 := HB5.out; refine (value_of true _ cv.k cv.n cv.s cv.la cv.ll cv.lc cv.oa cv.ol cv.oc v hv6 (HLV.out _ b6 cv hv6) hszV).mono ?_; rw [HVB.out, HVN.out]; rintro ee w6 ⟨⟨sa, sn, sc, rfl, hIc⟩, hb6⟩; have HV6 := Lib.hid (hv6.later_ hb6); have HP6 := Lib.hid (HP5.out.keep hb6 zs5); have zs6 : w3.heap.size < w6.heap.size := Nat.lt_of_lt_of_le zs5 hb6.size; have HB6 := Lib.hid (b6.trans (hb6.mono b6.size)); have k1 := conv_isB hIc; have k2 := conv_isB (HI.out.keep HB6.out); have p0 := HP6.out.at_ 0 _ rfl; have p1 := HP6.out.at_ 1 _ rfl; have p2 := HP6.out.at_ 2 _ rfl; have p3 := HP6.out.at_ 3 _ rfl; have p4 := HP6.out.at_ 4 _ rfl; clear hIc hb6 b6 hv6) | (go_at_call 16; refine (refSoundV_true w6 (HT.out.below HB6.out) v cv HV6.out HSV.out).mono ?_; rintro ee w7 ⟨rfl, hb7⟩; have HB7 := Lib.hid (HB6.out.trans (hb7.mono HB6.out.size)); clear hb7))
  go_returns
  exact ⟨rfl, HB7.out⟩
set_option maxHeartbeats 8000000 in
set_option maxRecDepth 100000 in
theorem codeOnly_10 (w : World) (hT : Tabs w) (a : Option Addr) (n c : Nat) (bs : List UInt8) (h : IsB w w.heap.size a n c bs) (hn : n ≤ 4000) (x : En) (e : Int) (v : V) (f : Int) (he : backE bs = (x, e)) (hf : backR bs = (v, f)) (h1 : e = 0) (h2 : f ≠ 0) :
    Calls Tryd.prog 4 #[.slice a n c] w fun e w' => e = .returned (.bool true) ∧ Below w.heap.size w w' := by
  have hlen := h.len
  have hmax : bs.length ≤ 281474976710656 := by omega
  have hn2 : ¬ 4000 < n := by omega
  have HT := Lib.hid hT
  have HI := Lib.hid h
  subst h1
  obtain ⟨q1, q2, q3, r1, q4⟩ := backE_ok he
  obtain ⟨l1, l2, l3⟩ := rdE_len q4
  have hsm : x.small := ⟨by omega, fun y hy => by have := l3 y hy; omega⟩
  have hszE : (encE x).length ≤ 70368744177664 := by omega
  have HES := Lib.hid (sound_later w hT x q1 hsm)
  have HEN : Hid (outN true (encE x) = 0) := by show outN _ _ = 0; rw [outN, if_pos rfl, if_neg (by omega)]
  have HEB : Hid (outB true (encE x) = bs) := by show outB _ _ = bs; rw [outB, if_pos rfl, if_neg (by omega), q2]
  have HSE := Lib.hid q1
  have HSM := Lib.hid hsm
  clear l3 hsm q1 q2 q4
  have fF : (f == 0) = false := by simpa using h2
  have fF2 : decide (f = 0) = false := by simpa using h2
  have HE := Lib.hid he
  have HV := Lib.hid hf
  clear he hf h hT hlen hn
  go_enter Tryd.func4, Tryd.ntmps4
  go_wp2_with (first | (go_at_call 6; refine (known_any w HT.out).mono ?_; rintro ek wk ⟨rfl, hbk⟩; have HBK := Lib.hid hbk; clear hbk) | (go_at_call 7; refine (backE_any wk (HT.out.below HBK.out) a n c bs ((HI.out.keep HBK.out).more HBK.out.size) hmax HE.out).mono ?_; rintro ee w2 ⟨⟨cx, rfl, hIx⟩, hb2⟩; have HX2 := Lib.hid hIx; have HB2 := Lib.hid (HBK.out.trans (hb2.mono HBK.out.size)); clear hIx hb2) | (go_at_call 9; refine (backR_any _ (HT.out.below (HB2.out.alloc HB2.out.size _)) a n c bs ((HI.out.keep (HB2.out.alloc HB2.out.size _)).more (HB2.out.alloc HB2.out.size _).size) hmax HV.out).mono ?_; rintro ee w3 ⟨⟨cv, rfl, hIv⟩, hb3⟩; have HV3 := Lib.hid hIv; have b23 : Below w2.heap.size w2 w3 := ((Below.refl _ _).alloc (Nat.le_refl _) _).trans (hb3.mono (by simp)); have zs3 : w2.heap.size < w3.heap.size := Nat.lt_of_lt_of_le (by simp) hb3.size; have HX3 := Lib.hid (HX2.out.later_ b23); have HO3 := Lib.hid ((BC.start w2 #[.int .u8 cx.k, .int .u32 cx.src, .int .u32 cx.seq, .int .u8 cx.v.k, .int .i64 cx.v.n, .string cx.v.s, .slice cx.v.la cx.v.ll cx.v.lc, .slice cx.v.oa cx.v.ol cx.v.oc, .slice cx.oa cx.ol cx.oc] 31).keep hb3 (by simp)); have HB3 := Lib.hid (HB2.out.trans (b23.mono HB2.out.size)); have o0 := HO3.out.at_ 0 _ rfl; have o1 := HO3.out.at_ 1 _ rfl; have o2 := HO3.out.at_ 2 _ rfl; have o3 := HO3.out.at_ 3 _ rfl; have o4 := HO3.out.at_ 4 _ rfl; have o5 := HO3.out.at_ 5 _ rfl; have o6 := HO3.out.at_ 6 _ rfl; have o7 := HO3.out.at_ 7 _ rfl; have o8 := HO3.out.at_ 8 _ rfl; clear hIv hb3 b23) | (go_at_call 13; have b3a : Below w3.heap.size w3 (w3.alloc (.cells #[.int .u8 cv.k, .int .i64 cv.n, .string cv.s, .slice cv.la cv.ll cv.lc, .slice cv.oa cv.ol cv.oc] 28)) := (Below.refl _ _).alloc (Nat.le_refl _) _; have hx4 := HX3.out.later_ b3a; refine (encode_e true _ cx x hx4 (HES.out _ (HB3.out.trans (b3a.mono HB3.out.size)) cx hx4) hszE).mono ?_; rw [HEB.out, HEN.out]; rintro ee w4 ⟨⟨ra, rn, rc, rfl, hIc⟩, hb4⟩; have b34 := b3a.trans (hb4.mono b3a.size); have HX4 := Lib.hid (HX3.out.later_ b34); have zs4 : w3.heap.size < w4.heap.size := Nat.lt_of_lt_of_le (by simp) hb4.size; have HV4 := Lib.hid (HV3.out.later_ b34); have HO4 := Lib.hid (HO3.out.keep b34 zs3); have HP4 := Lib.hid ((BC.start w3 #[.int .u8 cv.k, .int .i64 cv.n, .string cv.s, .slice cv.la cv.ll cv.lc, .slice cv.oa cv.ol cv.oc] 28).keep hb4 (by simp)); have HB4 := Lib.hid (HB3.out.trans (b34.mono HB3.out.size)); have k1 := conv_isB hIc; have k2 := conv_isB (HI.out.keep HB4.out); have o0 := HO4.out.at_ 0 _ rfl; have o1 := HO4.out.at_ 1 _ rfl; have o2 := HO4.out.at_ 2 _ rfl; have o3 := HO4.out.at_ 3 _ rfl; have o4 := HO4.out.at_ 4 _ rfl; have o5 := HO4.out.at_ 5 _ rfl; have o6 := HO4.out.at_ 6 _ rfl; have o7 := HO4.out.at_ 7 _ rfl; have o8 := HO4.out.at_ 8 _ rfl; have p0 := HP4.out.at_ 0 _ rfl; have p1 := HP4.out.at_ 1 _ rfl; have p2 := HP4.out.at_ 2 _ rfl; have p3 := HP4.out.at_ 3 _ rfl; have p4 := HP4.out.at_ 4 _ rfl; clear hIc hb4 b34 b3a hx4) | (go_at_call 14; refine (refSound_true w4 (HT.out.below HB4.out) x cx HX4.out HSE.out HSM.out).mono ?_; rintro ee w5 ⟨rfl, hb5⟩; have zs5 : w3.heap.size < w5.heap.size := Nat.lt_of_lt_of_le zs4 hb5.size; have HV5 := Lib.hid (HV4.out.later_ hb5); have HP5 := Lib.hid (HP4.out.keep hb5 zs4); have HB5 := Lib.hid (HB4.out.trans (hb5.mono HB4.out.size)); have p0 := HP5.out.at_ 0 _ rfl; have p1 := HP5.out.at_ 1 _ rfl; have p2 := HP5.out.at_ 2 _ rfl; have p3 := HP5.out.at_ 3 _ rfl; have p4 := HP5.out.at_ 4 _ rfl; clear hb5))
  go_returns
  exact ⟨rfl, HB5.out⟩
set_option maxHeartbeats 8000000 in
set_option maxRecDepth 100000 in
theorem codeOnly_01 (w : World) (hT : Tabs w) (a : Option Addr) (n c : Nat) (bs : List UInt8) (h : IsB w w.heap.size a n c bs) (hn : n ≤ 4000) (x : En) (e : Int) (v : V) (f : Int) (he : backE bs = (x, e)) (hf : backR bs = (v, f)) (h1 : e ≠ 0) (h2 : f = 0) :
    Calls Tryd.prog 4 #[.slice a n c] w fun e w' => e = .returned (.bool true) ∧ Below w.heap.size w w' := by
  have hlen := h.len
  have hmax : bs.length ≤ 281474976710656 := by omega
  have hn2 : ¬ 4000 < n := by omega
  have HT := Lib.hid hT
  have HI := Lib.hid h
  have fE : (e == 0) = false := by simpa using h1
  have fE2 : decide (e = 0) = false := by simpa using h1
  subst h2
  obtain ⟨u1, u2, u3, r2, u4⟩ := backR_ok hf
  obtain ⟨m1, m2⟩ := rdV_len 18 bs v r2 u4
  have hszV : (encV v).length ≤ 70368744177664 := by omega
  have HLV := Lib.hid (light_later w hT v u1 (by omega))
  have HVN : Hid (outN true (encV v) = 0) := by show outN _ _ = 0; rw [outN, if_pos rfl, if_neg (by omega)]
  have HVB : Hid (outB true (encV v) = bs) := by show outB _ _ = bs; rw [outB, if_pos rfl, if_neg (by omega), u2]
  have hsv : v.sound = true := by
    unfold lightB at u1
    simp only [Bool.and_eq_true] at u1
    exact u1.1.1
  have HSV := Lib.hid hsv
  clear hsv u1 u2 u4
  have HE := Lib.hid he
  have HV := Lib.hid hf
  clear he hf h hT hlen hn
  go_enter Tryd.func4, Tryd.ntmps4
  go_wp2_with (first | (go_at_call 6; refine (known_any w HT.out).mono ?_; rintro ek wk ⟨rfl, hbk⟩; have HBK := Lib.hid hbk; clear hbk) | (go_at_call 7; refine (backE_any wk (HT.out.below HBK.out) a n c bs ((HI.out.keep HBK.out).more HBK.out.size) hmax HE.out).mono ?_; rintro ee w2 ⟨⟨cx, rfl, hIx⟩, hb2⟩; have HX2 := Lib.hid hIx; have HB2 := Lib.hid (HBK.out.trans (hb2.mono HBK.out.size)); clear hIx hb2) | (go_at_call 9; refine (backR_any _ (HT.out.below (HB2.out.alloc HB2.out.size _)) a n c bs ((HI.out.keep (HB2.out.alloc HB2.out.size _)).more (HB2.out.alloc HB2.out.size _).size) hmax HV.out).mono ?_; rintro ee w3 ⟨⟨cv, rfl, hIv⟩, hb3⟩; have HV3 := Lib.hid hIv; have b23 : Below w2.heap.size w2 w3 := ((Below.refl _ _).alloc (Nat.le_refl _) _).trans (hb3.mono (by simp)); have zs3 : w2.heap.size < w3.heap.size := Nat.lt_of_lt_of_le (by simp) hb3.size; have HX3 := Lib.hid (HX2.out.later_ b23); have HO3 := Lib.hid ((BC.start w2 #[.int .u8 cx.k, .int .u32 cx.src, .int .u32 cx.seq, .int .u8 cx.v.k, .int .i64 cx.v.n, .string cx.v.s, .slice cx.v.la cx.v.ll cx.v.lc, .slice cx.v.oa cx.v.ol cx.v.oc, .slice cx.oa cx.ol cx.oc] 31).keep hb3 (by simp)); have HB3 := Lib.hid (HB2.out.trans (b23.mono HB2.out.size)); have o0 := HO3.out.at_ 0 _ rfl; have o1 := HO3.out.at_ 1 _ rfl; have o2 := HO3.out.at_ 2 _ rfl; have o3 := HO3.out.at_ 3 _ rfl; have o4 := HO3.out.at_ 4 _ rfl; have o5 := HO3.out.at_ 5 _ rfl; have o6 := HO3.out.at_ 6 _ rfl; have o7 := HO3.out.at_ 7 _ rfl; have o8 := HO3.out.at_ 8 _ rfl; clear hIv hb3 b23) | (go_at_call 15; have b3a : Below w3.heap.size w3 (w3.alloc (.cells #[.int .u8 cv.k, .int .i64 cv.n, .string cv.s, .slice cv.la cv.ll cv.lc, .slice cv.oa cv.ol cv.oc] 28)) := (Below.refl _ _).alloc (Nat.le_refl _) _; have hv6 := HV3.out.later_ b3a; have b6 := HB3.out.trans (b3a.mono HB3.out.size); refine (value_of true _ cv.k cv.n cv.s cv.la cv.ll cv.lc cv.oa cv.ol cv.oc v hv6 (HLV.out _ b6 cv hv6) hszV).mono ?_; rw [HVB.out, HVN.out]; rintro ee w6 ⟨⟨sa, sn, sc, rfl, hIc⟩, hb6⟩; have HV6 := Lib.hid (hv6.later_ hb6); have HP6 := Lib.hid ((BC.start w3 #[.int .u8 cv.k, .int .i64 cv.n, .string cv.s, .slice cv.la cv.ll cv.lc, .slice cv.oa cv.ol cv.oc] 28).keep hb6 (by simp)); have zs6 : w3.heap.size < w6.heap.size := Nat.lt_of_lt_of_le (by simp) hb6.size; have HB6 := Lib.hid (b6.trans (hb6.mono b6.size)); have k1 := conv_isB hIc; have k2 := conv_isB (HI.out.keep HB6.out); have p0 := HP6.out.at_ 0 _ rfl; have p1 := HP6.out.at_ 1 _ rfl; have p2 := HP6.out.at_ 2 _ rfl; have p3 := HP6.out.at_ 3 _ rfl; have p4 := HP6.out.at_ 4 _ rfl; clear hIc hb6 b6 hv6) | (go_at_call 16; refine (refSoundV_true w6 (HT.out.below HB6.out) v cv HV6.out HSV.out).mono ?_; rintro ee w7 ⟨rfl, hb7⟩; have HB7 := Lib.hid (HB6.out.trans (hb7.mono HB6.out.size)); clear hb7))
  go_returns
  exact ⟨rfl, HB7.out⟩
set_option maxHeartbeats 8000000 in
set_option maxRecDepth 100000 in
theorem codeOnly_00 (w : World) (hT : Tabs w) (a : Option Addr) (n c : Nat) (bs : List UInt8) (h : IsB w w.heap.size a n c bs) (hn : n ≤ 4000) (x : En) (e : Int) (v : V) (f : Int) (he : backE bs = (x, e)) (hf : backR bs = (v, f)) (h1 : e ≠ 0) (h2 : f ≠ 0) :
    Calls Tryd.prog 4 #[.slice a n c] w fun e w' => e = .returned (.bool true) ∧ Below w.heap.size w w' := by
  have hlen := h.len
  have hmax : bs.length ≤ 281474976710656 := by omega
  have hn2 : ¬ 4000 < n := by omega
  have HT := Lib.hid hT
  have HI := Lib.hid h
  have fE : (e == 0) = false := by simpa using h1
  have fE2 : decide (e = 0) = false := by simpa using h1
  have fF : (f == 0) = false := by simpa using h2
  have fF2 : decide (f = 0) = false := by simpa using h2
  have HE := Lib.hid he
  have HV := Lib.hid hf
  clear he hf h hT hlen hn
  go_enter Tryd.func4, Tryd.ntmps4
  go_wp2_with (first | (go_at_call 6; refine (known_any w HT.out).mono ?_; rintro ek wk ⟨rfl, hbk⟩; have HBK := Lib.hid hbk; clear hbk) | (go_at_call 7; refine (backE_any wk (HT.out.below HBK.out) a n c bs ((HI.out.keep HBK.out).more HBK.out.size) hmax HE.out).mono ?_; rintro ee w2 ⟨⟨cx, rfl, hIx⟩, hb2⟩; have HX2 := Lib.hid hIx; have HB2 := Lib.hid (HBK.out.trans (hb2.mono HBK.out.size)); clear hIx hb2) | (go_at_call 9; refine (backR_any _ (HT.out.below (HB2.out.alloc HB2.out.size _)) a n c bs ((HI.out.keep (HB2.out.alloc HB2.out.size _)).more (HB2.out.alloc HB2.out.size _).size) hmax HV.out).mono ?_; rintro ee w3 ⟨⟨cv, rfl, hIv⟩, hb3⟩; have HV3 := Lib.hid hIv; have b23 : Below w2.heap.size w2 w3 := ((Below.refl _ _).alloc (Nat.le_refl _) _).trans (hb3.mono (by simp)); have zs3 : w2.heap.size < w3.heap.size := Nat.lt_of_lt_of_le (by simp) hb3.size; have HX3 := Lib.hid (HX2.out.later_ b23); have HO3 := Lib.hid ((BC.start w2 #[.int .u8 cx.k, .int .u32 cx.src, .int .u32 cx.seq, .int .u8 cx.v.k, .int .i64 cx.v.n, .string cx.v.s, .slice cx.v.la cx.v.ll cx.v.lc, .slice cx.v.oa cx.v.ol cx.v.oc, .slice cx.oa cx.ol cx.oc] 31).keep hb3 (by simp)); have HB3 := Lib.hid (HB2.out.trans (b23.mono HB2.out.size)); have o0 := HO3.out.at_ 0 _ rfl; have o1 := HO3.out.at_ 1 _ rfl; have o2 := HO3.out.at_ 2 _ rfl; have o3 := HO3.out.at_ 3 _ rfl; have o4 := HO3.out.at_ 4 _ rfl; have o5 := HO3.out.at_ 5 _ rfl; have o6 := HO3.out.at_ 6 _ rfl; have o7 := HO3.out.at_ 7 _ rfl; have o8 := HO3.out.at_ 8 _ rfl; clear hIv hb3 b23))
  go_returns
  exact ⟨rfl, HB3.out.alloc HB3.out.size _⟩
theorem codeOnly_any (w : World) (hT : Tabs w) (a : Option Addr) (n c : Nat) (bs : List UInt8) (h : IsB w w.heap.size a n c bs) :
    Calls Tryd.prog 4 #[.slice a n c] w fun e w' => e = .returned (.bool true) ∧ Below w.heap.size w w' := by
  by_cases hn : n ≤ 4000
  · obtain ⟨⟨x, e⟩, hE⟩ : ∃ p : En × Int, backE bs = p := ⟨_, rfl⟩
    obtain ⟨⟨v, f⟩, hV⟩ : ∃ p : V × Int, backR bs = p := ⟨_, rfl⟩
    by_cases h1 : e = 0
    · by_cases h2 : f = 0
      · exact codeOnly_11 w hT a n c bs h hn x e v f hE hV h1 h2
      · exact codeOnly_10 w hT a n c bs h hn x e v f hE hV h1 h2
    · by_cases h2 : f = 0
      · exact codeOnly_01 w hT a n c bs h hn x e v f hE hV h1 h2
      · exact codeOnly_00 w hT a n c bs h hn x e v f hE hV h1 h2
  · have hn2 : 4000 < n := by omega
    have HT := Lib.hid hT
    clear h hT hn
    go_enter Tryd.func4, Tryd.ntmps4
    go_wp2_with (go_at_call 6; refine (known_any w HT.out).mono ?_; rintro ek wk ⟨rfl, hbk⟩; have HBK := Lib.hid hbk; clear hbk)
    go_returns
    exact ⟨rfl, HBK.out⟩
end Go.Proofs.YtcfbnmobfcabiaaDoor
namespace Go.Proofs.YtcfbnmobfcabiaaDoor
open Go.Shelf
open Go.ChangeShapes Go.WideShapes Go.ChangeAt Go.RowKit Go.Lib

theorem codeOnlyOwn : ownKnob Tryd.prog.godebug = none := by kernel_rfl
theorem codeOnlyLaidOut : laidOutB Tryd.prog = true := by kernel_rfl

/-- The settled world, the two tables as their text lays them. -/
noncomputable def codeOnlyWorld (os : Os) : World :=
  let w0 := World.holding Tryd.prog os ⟨#[], #[], []⟩
  let put (h : Array Obj) (g : Nat) (cs : Array Value) : Array Obj := h.modify g fun
    | .cells _ t frozen => .cells cs t frozen
    | o => o
  let h1 := put w0.heap 0 (Lib.firstTab.map fun z => Value.int .u8 z).toArray
  let h2 := put h1 1 ((List.range 16).flatMap fun i => [Value.int .u8 (Lib.accLo i), Value.int .u8 (Lib.accHi i)]).toArray
  { w0 with heap := h2 }
theorem codeOnlyAccept : Rows.laid_unicode_utf8_acceptRanges (H := Unit) = Lib.acceptData := by kernel_rfl
theorem codeOnlyLaid : Rows.codeOnlyRow.laid = [("unicode/utf8.acceptRanges", Lib.acceptData), ("unicode/utf8.first", Lib.firstData)] := by
  show [("unicode/utf8.acceptRanges", Rows.laid_unicode_utf8_acceptRanges), ("unicode/utf8.first", Go.Pinned.utf8First)] = _
  rw [Pinned.utf8First_eq, codeOnlyAccept]
theorem codeOnlyLaidMet (os : Os) (args : Array Value) : laidMet Tryd.prog Rows.codeOnlyRow.laid ((codeOnlyWorld os).forCall (fun _ _ => 0) ⟨#[], args, []⟩).memory := by
  rw [codeOnlyLaid]
  exact (LaidIn.of_run (l := [("unicode/utf8.acceptRanges", Lib.acceptData), ("unicode/utf8.first", Lib.firstData)]) [0, 1] 8 (by kernel_rfl) (by kernel_rfl) (by kernel_rfl) (by kernel_rfl)).met

theorem codeOnlyWitness (os : Os) {H : Type} (enc : TypeId × Value → H) :
    (OpenSpec.ofChange Rows.codeOnlySpec).preRow enc Tryd.prog Tryd.f4 Rows.codeOnlyRow.domain false Rows.codeOnlyRow.laid ((codeOnlyWorld os).forCall (fun _ _ => 0) ⟨#[], #[.slice none 0 0], []⟩).memory #[.slice none 0 0] := by
  have hw : (DataW.whole enc Tryd.prog ((codeOnlyWorld os).forCall (fun _ _ => 0) ⟨#[], #[.slice none 0 0], []⟩).memory Tryd.f4.params.toList (OpenSpec.ofChange Rows.codeOnlySpec).vars false #[Value.slice none 0 0].toList 8).map (fun x => (x.1, x.2.1)) =
      some ([.nil], []) := by kernel_rfl
  obtain ⟨⟨x1, x2, x3⟩, hx, hx1⟩ := Option.map_eq_some_iff.1 hw
  simp only [Prod.mk.injEq] at hx1
  obtain ⟨rfl, rfl⟩ := hx1
  exact OpenSpec.preRow_of_cond 8 hx (by kernel_rfl) (fun k hk => by cases hk) (by kernel_rfl) (codeOnlyLaidMet os _)

set_option maxRecDepth 100000 in
/-- A slice of bytes that came in. -/
theorem codeOnlyBytes {H : Type} {enc : TypeId × Value → H} {W : World} {base : Nat} {v1 : Value} {d1 : DataW H} {p1 : List MemPlace} (hval : Value.okWide Tryd.prog W .any base 22 v1) (h1 : DataW.Trod enc Tryd.prog W 0 (fun _ => true) true 22 v1 d1 p1) :
    ∃ (a : Option Addr) (n c : Nat) (bs : List UInt8), v1 = .slice a n c ∧ IsB W W.heap.size a n c bs := by
  obtain ⟨a1, len, cap, rfl⟩ := okWide_slice Tryd.underlying22 hval
  obtain ⟨fuel, hf⟩ := h1
  rcases open_ints Tryd.underlying22 Tryd.underlying5 (by kernel_rfl) hf with ⟨hcs, hx⟩ | ⟨a, len', cap', zs, hcs, _, hl, hm, hz, hx, hcell, hwz⟩
  · simp [Value.cells] at hcs
    obtain ⟨rfl, rfl, rfl⟩ := hcs
    exact ⟨_, _, _, [], rfl, rfl, Nat.le_refl _, by decide, 0, 0, (fun h => absurd h (by decide)), (fun i hi => absurd hi (by simp))⟩
  · simp [Value.cells] at hcs
    obtain ⟨rfl, rfl, rfl⟩ := hcs
    simp only [if_true] at hz
    obtain ⟨bs, hbs⟩ : ∃ bs, (zs.take len).map (fun n => UInt8.ofNat n.toNat) = bs := ⟨_, rfl⟩
    have hlen : bs.length = len := by rw [← hbs]; simp; omega
    obtain ⟨ab, ao, spot⟩ := a
    refine ⟨_, _, _, bs, rfl, hlen.symm, hl, by unfold maxLen at hm; omega, ab, ao, fun hn => ?_, fun i hi => ?_⟩
    · have h0 := hcell 0 (by omega)
      have hspot : spot = none := by simpa [Addr.add] using World.cell?_spot h0
      subst hspot
      refine ⟨rfl, ?_⟩
      simpa [Addr.add] using World.block_lt_of_cell? W _ h0
    · have h0 := hcell i (by omega)
      have h00 := hcell 0 (by omega)
      have hspot : spot = none := by simpa [Addr.add] using World.cell?_spot h00
      subst hspot
      rw [Addr.add_lit] at h0
      have hb := range_u8 hwz i
      have e : zs.getD i 0 = zs[i]'(by omega) := by simp [List.getD, List.getElem?_eq_getElem (show i < zs.length by omega)]
      rw [List.getD_eq_getElem?_getD] at e
      rw [e] at hb
      rw [h0, List.getD_eq_getElem?_getD, e]
      subst hbs
      simp only [List.getElem_map, List.getElem_take]
      congr 2
      simp only [UInt8.toNat_ofNat']
      omega

set_option maxRecDepth 100000 in
set_option maxHeartbeats 2000000 in
theorem codeOnlyLifted (os : Os) (started : os.Started) (H : Type) (enc : TypeId × Value → H) (F : Stop.Interp) :
    ReturnsInHanded {} Tryd.checked os 4 .any ((OpenSpec.ofChange Rows.codeOnlySpec).preRow enc Tryd.prog Tryd.f4 Rows.codeOnlyRow.domain false Rows.codeOnlyRow.laid) (((OpenSpec.ofChange Rows.codeOnlySpec).at F).post enc Tryd.prog Tryd.f4 false true false false) := by
  refine returnsInHanded_of_row (C := Tryd.checked) (s := OpenSpec.ofChange Rows.codeOnlySpec) codeOnlyOwn started (by kernel_rfl) Tryd.func4
    (witness_row_atRef (enc := enc) (C := Tryd.checked) false (codeOnlyWorld os) #[.slice none 0 0] rfl (by kernel_rfl) (by kernel_rfl) (by kernel_rfl) (codeOnlyWitness os enc)) ?_
  intro W base args ds gs before hval0 hW _ _ _ hL _ _
  have hval : ∀ (j : Nat) t v, Tryd.f4.params[j]? = some t → args[j]? = some v → Value.okWide Tryd.prog W .any base t v := hval0
  have hW' := hW
  obtain ⟨p, q, hA0, hV0, rfl, _, _⟩ := hW
  have hA : DataW.TrodAll enc Tryd.prog W 0 (fun _ => true) true Tryd.f4.params.toList args.toList ds p := hA0
  rw [Tryd.params4] at hA hval
  obtain ⟨v0, d0, rfl, rfl, h0⟩ := trodAll_one hA
  obtain ⟨rfl, rfl⟩ := trodVars_none hV0
  have k0 := h0
  have lt0 : ∀ x ∈ p, x.block < W.heap.size := by obtain ⟨m, hm⟩ := k0; exact DataW.trod_lt m _ _ _ hm
  obtain ⟨a, n, c, bs, rfl, hI⟩ := codeOnlyBytes (hval 0 22 v0 rfl rfl) h0
  clear hA0 hV0 hval0
  have htab : Tabs W :=
    utf8Tabs_of_readsT (U8Types.of196 Tryd.lays196) ⟨by kernel_rfl, by kernel_rfl, by kernel_rfl, by kernel_rfl, by kernel_rfl, by kernel_rfl, by kernel_rfl⟩ (by rw [← Pinned.utf8First_eq]; exact Lib.laidMet.reads hL (.tail _ (.head _))) (Lib.laidMet.reads hL (.head _))
  refine (codeOnly_any W htab a n c bs hI).mono fun e W' ⟨he, bel⟩ => ?_
  subst he
  exact ⟨_, rfl, _, _, _, [], _, [], hW', trodAll_mk1 (shut_bool Tryd.underlying4 _), trodAll_cons_mk (Below.trod codeOnlyLaidOut (by kernel_rfl) (of_decide_eq_true (by kernel_rfl)) k0 bel lt0) trodAll_mk0, rfl, bel.frame _, fun h => by cases h⟩

theorem codeOnlyRowHolds : Rows.CodeOnlySaid :=
  OpenClaim.holds_of_cond 4 Tryd.f4 rfl rfl rfl rfl rfl rfl rfl ⟨rfl, rfl, rfl, rfl, rfl⟩ rfl rfl rfl rfl rfl (by kernel_rfl) Tryd.func4 (by kernel_rfl)
    (of_decide_eq_true (by kernel_rfl)) (by unfold Func.isWrapper; rw [if_neg (of_decide_eq_false (by kernel_rfl))]; exact ⟨rfl, rfl⟩)
    (fun os started H enc _ F0 => by rw [OpenClaim.pre_eq_preRow]; exact codeOnlyLifted os started H enc F0)

/-- THE STATEMENT. -/
theorem codeOnly_holds : Rows.CodeOnlyCardSaid :=
  Claim7.holds_tied_plain_at .later [] [.data, .pinned] true _ true
    codeOnlyRowHolds (fun _ h => by cases h) (by kernel_rfl) (fun _ h => by cases h) codeOnly_row_tie rfl ⟨rfl, rfl⟩ (by kernel_rfl) rfl
    (fun f fn hf hfn => by
      obtain rfl : f = 4 := Option.some.inj ((show Tryd.prog.funcNamed "conciliator/conciliatorlaw10.CodeOnly" = some 4 by kernel_rfl).symm.trans hf) |>.symm
      obtain rfl : fn = Tryd.f4 := (Option.some.inj (Tryd.func4.symm.trans hfn)).symm
      exact ⟨by kernel_rfl, fun j t ht => by
        rw [Tryd.params4] at ht
        have h3 : t = 22 := by
          rcases j with _ | j
          · simpa using ht.symm
          · simp at ht
        subst h3
        exact (show Tryd.prog.wantsStandIn 22 = false by kernel_rfl)⟩)
    (by kernel_rfl)
#print axioms codeOnly_holds

end Go.Proofs.YtcfbnmobfcabiaaDoor
