/-
  Contracts of the functions that the law reaches: With: the walk. With: the walk. With: the walk. With: of whatever fields. What Build builds of pieces, in plain Lean. reader.comp: what stands in memory while it runs. What is read is as long as it is written, and weighs no more. No program in sight. Entries: what is read is as long as it is written. No program in sight. whole: its deferred calls. reader.entry: what stands in memory while it runs. whole: its own blocks. reader.value, whole. whole at values. one: what stands in memory while it runs.
-/
import Derived.Test.YtcfbnmobfcabiaaDoorVal5
import Derived.Stop.Asserts
namespace Go.Proofs.YtcfbnmobfcabiaaDoor
open Go.RowKit
set_option maxHeartbeats 8000000 in
set_option maxRecDepth 100000 in
theorem with_ft (w : World) (B0 : Nat) (hB0 : B0 ≤ w.heap.size) (o : List (ByteArray × V)) (b off ol oc : Nat) (ho : IsFields (only (fun k => B0 ≤ k) w) w.heap.size o (some ⟨b, off, none⟩) ol oc) (key : ByteArray) (hks : key.size ≤ 140737488355328) (x : V) (cx : VC) (hx : IsVal (only (fun k => B0 ≤ k) w) w.heap.size x cx) (hpos : 0 < ol) (hfew : ol ≤ 1000000) (his : fieldIs o key = false) (hke : fieldK o key = oc) :
    Calls Tryd.prog 78 #[.slice (some ⟨b, off, none⟩) ol oc, .string key, .agg #[.int .u8 cx.k, .int .i64 cx.n, .string cx.s, .slice cx.la cx.ll cx.lc, .slice cx.oa cx.ol cx.oc]] w (WithPost w B0 (withF o key x)) := by
  obtain ⟨i0, hi0, hz0, hz1, hz2⟩ := info_parts ginfoFR
  have hlen := ho.len
  have hcap := ho.cap
  have hmax := ho.max
  obtain ⟨cs, b2, off2, hcl, hab, hcell, hpf⟩ := ho.cells
  have HCELL : Hid (∀ W, Below w.heap.size w W → ∀ j u, (cs.flatMap fcells)[j]? = some u → W.cell? ⟨b, off + j, none⟩ = some u) := by
    intro W hW j u hj
    have hjl := (List.getElem?_eq_some_iff.1 hj).1
    rw [flat_length fcells 6 (fun _ => rfl), hcl, ← hlen] at hjl
    obtain ⟨e, hb2⟩ := hab (by omega)
    injection e with e; injection e with e1 e2
    subst e1 e2
    exact keep_cell hW (only_cell (hcell j u hj)).2 hb2
  obtain ⟨k, hk⟩ : ∃ k, fieldK o key = k := ⟨_, rfl⟩
  rw [hk] at hke
  have hkl : k ≤ ol := by rw [← hk, hlen]; exact fieldK_le o key
  have hkl2 := hkl
  have hkc : k ≤ cs.length := by rw [hcl, ← hlen]; exact hkl
  have hkc2 : k ≤ cs.length := by rw [hcl, ← hlen]; omega
  have HF : Hid (∀ W, Below w.heap.size w W → Calls Tryd.prog 93 #[.agg #[.int .u8 0, .int .i64 0, .string { data := #[] }, .slice none 0 0, .slice (some ⟨b, off, none⟩) ol oc], .string key] W fun e w' => e = .returned (.tuple #[.int .i64 (k : Int), .bool false]) ∧ Below W.heap.size W w') := by
    intro W hW
    have hof : IsFields W W.heap.size o (some ⟨b, off, none⟩) ol oc := (IsFields.keep (IsFields.sub (shows_only (fun k => B0 ≤ k) w _) ho) hW).more hW.size
    have := field_any W o key 0 0 { data := #[] } none 0 0 (some ⟨b, off, none⟩) ol oc hof
    rw [hk, his] at this; exact this
  have hwf : withF o key x = o.take k ++ (key, x) :: o.drop (k) := by rw [withF, his, hk]; rfl
  rw [hwf]
  have HBX := Lib.hid (BC.start w #[.int .u8 cx.k, .int .i64 cx.n, .string cx.s, .slice cx.la cx.ll cx.lc, .slice cx.oa cx.ol cx.oc] 28)
  have HAL := Lib.hid ((Below.refl _ _).alloc (Nat.le_refl _) (.cells #[.int .u8 cx.k, .int .i64 cx.n, .string cx.s, .slice cx.la cx.ll cx.lc, .slice cx.oa cx.ol cx.oc] 28) : Below w.heap.size w _)
  have HX := Lib.hid hx
  have HPF := Lib.hid hpf
  have HCL := Lib.hid hcl
  have HLEN := Lib.hid hlen
  obtain ⟨R, hR⟩ : ∃ R, WithPost w B0 (o.take k ++ (key, x) :: o.drop (k)) = R := ⟨_, rfl⟩
  rw [hR]
  have HR := Lib.hid hR
  obtain ⟨XA, hXA⟩ : ∃ XA, (cs.take k).flatMap fcells = XA := ⟨_, rfl⟩
  obtain ⟨XB, hXB⟩ : ∃ XB, (cs.drop (k)).flatMap fcells = XB := ⟨_, rfl⟩
  have hla : XA.length = k * 6 := by rw [← hXA, flat_length fcells 6 (fun _ => rfl), List.length_take, Nat.min_eq_left hkc]
  have hlb : XB.length = (ol - (k)) * 6 := by rw [← hXB, flat_length fcells 6 (fun _ => rfl), List.length_drop, hcl, ← hlen]
  have HA1 : Hid (∀ u ∈ XA, u.oneCell' = true) := by unfold Hid; rw [← hXA]; exact flat_one _
  have HB1 : Hid (∀ u ∈ XB, u.oneCell' = true) := by unfold Hid; rw [← hXB]; exact flat_one _
  have HCA : Hid (∀ W, Below w.heap.size w W → ∀ j u, XA[j]? = some u → W.cell? ((⟨b, off, none⟩ : Addr).add j) = some u) := by
    intro W hW j u hj
    rw [← hXA] at hj
    rw [add_at]; exact HCELL.out W hW j u (flat_take_get hj)
  have HCB : Hid (∀ W, Below w.heap.size w W → ∀ j u, XB[j]? = some u → W.cell? ((⟨b, off + (k) * 6, none⟩ : Addr).add j) = some u) := by
    intro W hW j u hj
    rw [← hXB] at hj
    rw [add_at, Nat.add_assoc]; exact HCELL.out W hW _ u (flat_drop_get hkc2 hj)
  have HXA := Lib.hid hXA
  have HXB := Lib.hid hXB
  clear ho hab hcell hk his hx hpf hcl hlen hwf hR hXA hXB hkc hkc2
  have hol : ol = k := by omega
  have hoc : oc = k := by omega
  cases hol; cases hoc
  go_enter Tryd.func78, Tryd.ntmps78
  go_wp2_with fail
  refine (HF.out _ HAL.out).mono ?_
  rintro e w1 ⟨rfl, hb1⟩
  have bl1 := HAL.out.trans (hb1.mono (by simp))
  have HBX1 := Lib.hid (HBX.out.keep hb1 (by simp))
  have zs1 : w.heap.size < w1.heap.size := HBX1.out.lt
  have HBL1 := Lib.hid bl1
  have ho1 : w1.ownsRow (w.heap.size + 1) 78 6 (.slice none 0 0) 0 [] := ⟨rfl, .inl ⟨rfl, rfl⟩⟩
  clear hb1 bl1
  go_wp2_with (first
    | (at_builtin; refine wpList_append_own _ rfl (.tmp 17) (.tmp 20) 26 (by rfl) (w.heap.size + 1) 78 i0 _ 6 96 Tryd.underlying26 hi0 hz0 hz1 hz2 rfl (by omega) (.slice none 0 0) 0 [] (by rfl) ho1 ⟨b, off, none⟩ ol (ol) XA (by rfl) hla (HCA.out _ HBL1.out) HA1.out (by unfold maxLen; omega) (by omega) (by omega) ?_; intro v1 w2 hown1 hgrow1 _; have b12 : Below (w.heap.size + 1) w1 w2 := grown_below hgrow1 (fun ol hk => by simp [Value.ownBlock] at hk) (by omega); have BX2 := HBX1.out.keep b12 (by omega); have x0 := BX2.at_ 0 _ rfl; have x1 := BX2.at_ 1 _ rfl; have x2 := BX2.at_ 2 _ rfl; have x3 := BX2.at_ 3 _ rfl; have x4 := BX2.at_ 4 _ rfl; have zs2 := BX2.lt; have HBL2 := Lib.hid (HBL1.out.trans (b12.mono (by omega))); have HO1 := Lib.hid hown1; have hrl : ∀ g, v1.ownBlock = some g → w.heap.size + 1 ≤ g ∧ g < w2.heap.size := hown1.lt; have ho2 := hown1.alloc (.cells #[.string key, .int .u8 cx.k, .int .i64 cx.n, .string cx.s, .slice cx.la cx.ll cx.lc, .slice cx.oa cx.ol cx.oc] 78); have hnw : ∀ j u, (fcells (key, cx))[j]? = some u → (w2.alloc (.cells #[.string key, .int .u8 cx.k, .int .i64 cx.n, .string cx.s, .slice cx.la cx.ll cx.lc, .slice cx.oa cx.ol cx.oc] 78)).cell? ((⟨w2.heap.size, 0, none⟩ : Addr).add j) = some u := World.news_of_block (t := 78) (fr := (0, 0)) (heap_alloc_new w2 (.cells #[.string key, .int .u8 cx.k, .int .i64 cx.n, .string cx.s, .slice cx.la cx.ll cx.lc, .slice cx.oa cx.ol cx.oc] 78)); have HNW := Lib.hid hnw; clear hnw hown1 hgrow1 BX2 b12)
    | (at_builtin; refine wpList_append_own _ rfl (.tmp 22) (.tmp 26) 26 (by rfl) (w.heap.size + 1) 78 i0 _ 6 96 Tryd.underlying26 hi0 hz0 hz1 hz2 rfl (by omega) v1 (0 + ol) ([] ++ XA) (by rfl) ho2 ⟨w2.heap.size, 0, none⟩ 1 1 (fcells (key, cx)) (by rfl) (by rfl) HNW.out (fcells_one key cx) (by unfold maxLen; omega) (by omega) (by simp; omega) ?_; intro v2 w4 hown2 hgrow2 _; have b24 : Below (w.heap.size + 1) w2 w4 := (((Below.refl w2.heap.size w2).alloc (Nat.le_refl _) (.cells #[.string key, .int .u8 cx.k, .int .i64 cx.n, .string cx.s, .slice cx.la cx.ll cx.lc, .slice cx.oa cx.ol cx.oc] 78)).mono (by omega)).trans (grown_below hgrow2 (fun ol hk => (hrl ol hk).1) (by simp; omega)); have HBL4 := Lib.hid (HBL2.out.trans (b24.mono (by omega))); have zs4 : w.heap.size < w4.heap.size := Nat.lt_of_lt_of_le zs2 b24.size; have hrl2 : ∀ g, v2.ownBlock = some g → w.heap.size + 1 ≤ g ∧ g < w4.heap.size := hown2.lt; have HO2 := Lib.hid hown2; clear hgrow2 b24 hown2)
    | (at_builtin; refine wpList_append_own _ rfl (.tmp 31) (.tmp 34) 26 (by rfl) (w.heap.size + 1) 78 i0 _ 6 96 Tryd.underlying26 hi0 hz0 hz1 hz2 rfl (by omega) v2 (0 + ol + 1) ([] ++ XA ++ fcells (key, cx)) (by rfl) HO2.out ⟨b, off, none⟩ 0 0 XB (by rfl) (by omega) (fun j u hj => by rw [List.getElem?_eq_none (by omega)] at hj; cases hj) HB1.out (by unfold maxLen; omega) (by omega) (by omega) ?_; intro v3 w5 hown3 hgrow3 _; have b45 : Below (w.heap.size + 1) w4 w5 := grown_below hgrow3 (fun ol hk => (hrl2 ol hk).1) (by omega); have HBL5 := Lib.hid (HBL4.out.trans (b45.mono (by omega))); have HO3 := Lib.hid hown3; clear hgrow3 b45 hown3))
  rw [← HR.out]
  have hcat : [] ++ XA ++ fcells (key, cx) ++ XB = (cs.take ol ++ (key, cx) :: cs.drop (ol)).flatMap fcells := by rw [← HXA.out, ← HXB.out]; simp
  have hll : (o.take ol ++ (key, x) :: o.drop (ol)).length = 0 + ol + 1 + 0 := by
    rw [List.length_append, List.length_cons, List.length_drop, List.length_take, ← HLEN.out, Nat.min_eq_left hkl]; omega
  have hown := HO3.out
  rw [hcat, ← hll] at hown
  have hlt3 := hown.lt
  have hsh : Shows (only (fun ol => B0 ≤ ol) w) (only (Free B0 v3) w5) w.heap.size := shows_step fun q hq hl => ⟨⟨hq, fun e => by have := (hlt3 q e.symm).1; omega⟩, HBL5.out.block q hl⟩
  obtain ⟨a, n, c, hv, hf, hz⟩ := isFields_of_own (B0 := B0) (B1 := w.heap.size + 1) hown (by omega) (by rw [List.length_append, List.length_append, List.length_cons, List.length_cons, List.length_drop, List.length_drop, List.length_take, List.length_take, HCL.out])
    (PF.with_ HCL.out (fun i hi => PF.closed o cs _ _ _ _ i hsh HBL5.out.size (HPF.out i hi)) ((HX.out.sub hsh).more HBL5.out.size) hks (by rw [← HLEN.out]; exact hkl) (by rw [← HLEN.out]; omega)) (by rw [hll]; omega)
  exact ⟨⟨a, n, c, by rw [hv], hf, hz⟩, HBL5.out⟩
end Go.Proofs.YtcfbnmobfcabiaaDoor
namespace Go.Proofs.YtcfbnmobfcabiaaDoor
open Go.RowKit
set_option maxHeartbeats 8000000 in
set_option maxRecDepth 100000 in
theorem with_tf (w : World) (B0 : Nat) (hB0 : B0 ≤ w.heap.size) (o : List (ByteArray × V)) (b off ol oc : Nat) (ho : IsFields (only (fun k => B0 ≤ k) w) w.heap.size o (some ⟨b, off, none⟩) ol oc) (key : ByteArray) (hks : key.size ≤ 140737488355328) (x : V) (cx : VC) (hx : IsVal (only (fun k => B0 ≤ k) w) w.heap.size x cx) (hpos : 0 < ol) (hfew : ol ≤ 1000000) (his : fieldIs o key = true) (hke : fieldK o key + 1 < oc) :
    Calls Tryd.prog 78 #[.slice (some ⟨b, off, none⟩) ol oc, .string key, .agg #[.int .u8 cx.k, .int .i64 cx.n, .string cx.s, .slice cx.la cx.ll cx.lc, .slice cx.oa cx.ol cx.oc]] w (WithPost w B0 (withF o key x)) := by
  obtain ⟨i0, hi0, hz0, hz1, hz2⟩ := info_parts ginfoFR
  have hlen := ho.len
  have hcap := ho.cap
  have hmax := ho.max
  obtain ⟨cs, b2, off2, hcl, hab, hcell, hpf⟩ := ho.cells
  have HCELL : Hid (∀ W, Below w.heap.size w W → ∀ j u, (cs.flatMap fcells)[j]? = some u → W.cell? ⟨b, off + j, none⟩ = some u) := by
    intro W hW j u hj
    have hjl := (List.getElem?_eq_some_iff.1 hj).1
    rw [flat_length fcells 6 (fun _ => rfl), hcl, ← hlen] at hjl
    obtain ⟨e, hb2⟩ := hab (by omega)
    injection e with e; injection e with e1 e2
    subst e1 e2
    exact keep_cell hW (only_cell (hcell j u hj)).2 hb2
  obtain ⟨k, hk⟩ : ∃ k, fieldK o key = k := ⟨_, rfl⟩
  rw [hk] at hke
  have hkl : k ≤ ol := by rw [← hk, hlen]; exact fieldK_le o key
  have hkl2 : k < ol := by rw [← hk, hlen]; exact fieldIs_lt his
  have hkc : k ≤ cs.length := by rw [hcl, ← hlen]; exact hkl
  have hkc2 : k + 1 ≤ cs.length := by rw [hcl, ← hlen]; omega
  have HF : Hid (∀ W, Below w.heap.size w W → Calls Tryd.prog 93 #[.agg #[.int .u8 0, .int .i64 0, .string { data := #[] }, .slice none 0 0, .slice (some ⟨b, off, none⟩) ol oc], .string key] W fun e w' => e = .returned (.tuple #[.int .i64 (k : Int), .bool true]) ∧ Below W.heap.size W w') := by
    intro W hW
    have hof : IsFields W W.heap.size o (some ⟨b, off, none⟩) ol oc := (IsFields.keep (IsFields.sub (shows_only (fun k => B0 ≤ k) w _) ho) hW).more hW.size
    have := field_any W o key 0 0 { data := #[] } none 0 0 (some ⟨b, off, none⟩) ol oc hof
    rw [hk, his] at this; exact this
  have hwf : withF o key x = o.take k ++ (key, x) :: o.drop (k + 1) := by rw [withF, his, hk]; rfl
  rw [hwf]
  have HBX := Lib.hid (BC.start w #[.int .u8 cx.k, .int .i64 cx.n, .string cx.s, .slice cx.la cx.ll cx.lc, .slice cx.oa cx.ol cx.oc] 28)
  have HAL := Lib.hid ((Below.refl _ _).alloc (Nat.le_refl _) (.cells #[.int .u8 cx.k, .int .i64 cx.n, .string cx.s, .slice cx.la cx.ll cx.lc, .slice cx.oa cx.ol cx.oc] 28) : Below w.heap.size w _)
  have HX := Lib.hid hx
  have HPF := Lib.hid hpf
  have HCL := Lib.hid hcl
  have HLEN := Lib.hid hlen
  obtain ⟨R, hR⟩ : ∃ R, WithPost w B0 (o.take k ++ (key, x) :: o.drop (k + 1)) = R := ⟨_, rfl⟩
  rw [hR]
  have HR := Lib.hid hR
  obtain ⟨XA, hXA⟩ : ∃ XA, (cs.take k).flatMap fcells = XA := ⟨_, rfl⟩
  obtain ⟨XB, hXB⟩ : ∃ XB, (cs.drop (k + 1)).flatMap fcells = XB := ⟨_, rfl⟩
  have hla : XA.length = k * 6 := by rw [← hXA, flat_length fcells 6 (fun _ => rfl), List.length_take, Nat.min_eq_left hkc]
  have hlb : XB.length = (ol - (k + 1)) * 6 := by rw [← hXB, flat_length fcells 6 (fun _ => rfl), List.length_drop, hcl, ← hlen]
  have HA1 : Hid (∀ u ∈ XA, u.oneCell' = true) := by unfold Hid; rw [← hXA]; exact flat_one _
  have HB1 : Hid (∀ u ∈ XB, u.oneCell' = true) := by unfold Hid; rw [← hXB]; exact flat_one _
  have HCA : Hid (∀ W, Below w.heap.size w W → ∀ j u, XA[j]? = some u → W.cell? ((⟨b, off, none⟩ : Addr).add j) = some u) := by
    intro W hW j u hj
    rw [← hXA] at hj
    rw [add_at]; exact HCELL.out W hW j u (flat_take_get hj)
  have HCB : Hid (∀ W, Below w.heap.size w W → ∀ j u, XB[j]? = some u → W.cell? ((⟨b, off + (k + 1) * 6, none⟩ : Addr).add j) = some u) := by
    intro W hW j u hj
    rw [← hXB] at hj
    rw [add_at, Nat.add_assoc]; exact HCELL.out W hW _ u (flat_drop_get hkc2 hj)
  have HXA := Lib.hid hXA
  have HXB := Lib.hid hXB
  clear ho hab hcell hk his hx hpf hcl hlen hwf hR hXA hXB hkc hkc2
  go_enter Tryd.func78, Tryd.ntmps78
  go_wp2_with fail
  refine (HF.out _ HAL.out).mono ?_
  rintro e w1 ⟨rfl, hb1⟩
  have bl1 := HAL.out.trans (hb1.mono (by simp))
  have HBX1 := Lib.hid (HBX.out.keep hb1 (by simp))
  have zs1 : w.heap.size < w1.heap.size := HBX1.out.lt
  have HBL1 := Lib.hid bl1
  have ho1 : w1.ownsRow (w.heap.size + 1) 78 6 (.slice none 0 0) 0 [] := ⟨rfl, .inl ⟨rfl, rfl⟩⟩
  clear hb1 bl1
  go_wp2_with (first
    | (at_builtin; refine wpList_append_own _ rfl (.tmp 17) (.tmp 20) 26 (by rfl) (w.heap.size + 1) 78 i0 _ 6 96 Tryd.underlying26 hi0 hz0 hz1 hz2 rfl (by omega) (.slice none 0 0) 0 [] (by rfl) ho1 ⟨b, off, none⟩ k oc XA (by rfl) hla (HCA.out _ HBL1.out) HA1.out (by unfold maxLen; omega) (by omega) (by omega) ?_; intro v1 w2 hown1 hgrow1 _; have b12 : Below (w.heap.size + 1) w1 w2 := grown_below hgrow1 (fun k hk => by simp [Value.ownBlock] at hk) (by omega); have BX2 := HBX1.out.keep b12 (by omega); have x0 := BX2.at_ 0 _ rfl; have x1 := BX2.at_ 1 _ rfl; have x2 := BX2.at_ 2 _ rfl; have x3 := BX2.at_ 3 _ rfl; have x4 := BX2.at_ 4 _ rfl; have zs2 := BX2.lt; have HBL2 := Lib.hid (HBL1.out.trans (b12.mono (by omega))); have HO1 := Lib.hid hown1; have hrl : ∀ g, v1.ownBlock = some g → w.heap.size + 1 ≤ g ∧ g < w2.heap.size := hown1.lt; have ho2 := hown1.alloc (.cells #[.string key, .int .u8 cx.k, .int .i64 cx.n, .string cx.s, .slice cx.la cx.ll cx.lc, .slice cx.oa cx.ol cx.oc] 78); have hnw : ∀ j u, (fcells (key, cx))[j]? = some u → (w2.alloc (.cells #[.string key, .int .u8 cx.k, .int .i64 cx.n, .string cx.s, .slice cx.la cx.ll cx.lc, .slice cx.oa cx.ol cx.oc] 78)).cell? ((⟨w2.heap.size, 0, none⟩ : Addr).add j) = some u := World.news_of_block (t := 78) (fr := (0, 0)) (heap_alloc_new w2 (.cells #[.string key, .int .u8 cx.k, .int .i64 cx.n, .string cx.s, .slice cx.la cx.ll cx.lc, .slice cx.oa cx.ol cx.oc] 78)); have HNW := Lib.hid hnw; clear hnw hown1 hgrow1 BX2 b12)
    | (at_builtin; refine wpList_append_own _ rfl (.tmp 22) (.tmp 26) 26 (by rfl) (w.heap.size + 1) 78 i0 _ 6 96 Tryd.underlying26 hi0 hz0 hz1 hz2 rfl (by omega) v1 (0 + k) ([] ++ XA) (by rfl) ho2 ⟨w2.heap.size, 0, none⟩ 1 1 (fcells (key, cx)) (by rfl) (by rfl) HNW.out (fcells_one key cx) (by unfold maxLen; omega) (by omega) (by simp; omega) ?_; intro v2 w4 hown2 hgrow2 _; have b24 : Below (w.heap.size + 1) w2 w4 := (((Below.refl w2.heap.size w2).alloc (Nat.le_refl _) (.cells #[.string key, .int .u8 cx.k, .int .i64 cx.n, .string cx.s, .slice cx.la cx.ll cx.lc, .slice cx.oa cx.ol cx.oc] 78)).mono (by omega)).trans (grown_below hgrow2 (fun k hk => (hrl k hk).1) (by simp; omega)); have HBL4 := Lib.hid (HBL2.out.trans (b24.mono (by omega))); have zs4 : w.heap.size < w4.heap.size := Nat.lt_of_lt_of_le zs2 b24.size; have hrl2 : ∀ g, v2.ownBlock = some g → w.heap.size + 1 ≤ g ∧ g < w4.heap.size := hown2.lt; have HO2 := Lib.hid hown2; clear hgrow2 b24 hown2)
    | (at_builtin; refine wpList_append_own _ rfl (.tmp 31) (.tmp 34) 26 (by rfl) (w.heap.size + 1) 78 i0 _ 6 96 Tryd.underlying26 hi0 hz0 hz1 hz2 rfl (by omega) v2 (0 + k + 1) ([] ++ XA ++ fcells (key, cx)) (by rfl) HO2.out ⟨b, off + (k + 1) * 6, none⟩ (ol - (k + 1)) (oc - (k + 1)) XB (by rfl) (by omega) (HCB.out _ HBL4.out) HB1.out (by unfold maxLen; omega) (by omega) (by omega) ?_; intro v3 w5 hown3 hgrow3 _; have b45 : Below (w.heap.size + 1) w4 w5 := grown_below hgrow3 (fun k hk => (hrl2 k hk).1) (by omega); have HBL5 := Lib.hid (HBL4.out.trans (b45.mono (by omega))); have HO3 := Lib.hid hown3; clear hgrow3 b45 hown3))
  rw [← HR.out]
  have hcat : [] ++ XA ++ fcells (key, cx) ++ XB = (cs.take k ++ (key, cx) :: cs.drop (k + 1)).flatMap fcells := by rw [← HXA.out, ← HXB.out]; simp
  have hll : (o.take k ++ (key, x) :: o.drop (k + 1)).length = 0 + k + 1 + (ol - (k + 1)) := by
    rw [List.length_append, List.length_cons, List.length_drop, List.length_take, ← HLEN.out, Nat.min_eq_left hkl]; omega
  have hown := HO3.out
  rw [hcat, ← hll] at hown
  have hlt3 := hown.lt
  have hsh : Shows (only (fun k => B0 ≤ k) w) (only (Free B0 v3) w5) w.heap.size := shows_step fun q hq hl => ⟨⟨hq, fun e => by have := (hlt3 q e.symm).1; omega⟩, HBL5.out.block q hl⟩
  obtain ⟨a, n, c, hv, hf, hz⟩ := isFields_of_own (B0 := B0) (B1 := w.heap.size + 1) hown (by omega) (by rw [List.length_append, List.length_append, List.length_cons, List.length_cons, List.length_drop, List.length_drop, List.length_take, List.length_take, HCL.out])
    (PF.with_ HCL.out (fun i hi => PF.closed o cs _ _ _ _ i hsh HBL5.out.size (HPF.out i hi)) ((HX.out.sub hsh).more HBL5.out.size) hks (by rw [← HLEN.out]; exact hkl) (by rw [← HLEN.out]; omega)) (by rw [hll]; omega)
  exact ⟨⟨a, n, c, by rw [hv], hf, hz⟩, HBL5.out⟩
end Go.Proofs.YtcfbnmobfcabiaaDoor
namespace Go.Proofs.YtcfbnmobfcabiaaDoor
open Go.RowKit
set_option maxHeartbeats 8000000 in
set_option maxRecDepth 100000 in
theorem with_tt (w : World) (B0 : Nat) (hB0 : B0 ≤ w.heap.size) (o : List (ByteArray × V)) (b off ol oc : Nat) (ho : IsFields (only (fun k => B0 ≤ k) w) w.heap.size o (some ⟨b, off, none⟩) ol oc) (key : ByteArray) (hks : key.size ≤ 140737488355328) (x : V) (cx : VC) (hx : IsVal (only (fun k => B0 ≤ k) w) w.heap.size x cx) (hpos : 0 < ol) (hfew : ol ≤ 1000000) (his : fieldIs o key = true) (hke : fieldK o key + 1 = oc) :
    Calls Tryd.prog 78 #[.slice (some ⟨b, off, none⟩) ol oc, .string key, .agg #[.int .u8 cx.k, .int .i64 cx.n, .string cx.s, .slice cx.la cx.ll cx.lc, .slice cx.oa cx.ol cx.oc]] w (WithPost w B0 (withF o key x)) := by
  obtain ⟨i0, hi0, hz0, hz1, hz2⟩ := info_parts ginfoFR
  have hlen := ho.len
  have hcap := ho.cap
  have hmax := ho.max
  obtain ⟨cs, b2, off2, hcl, hab, hcell, hpf⟩ := ho.cells
  have HCELL : Hid (∀ W, Below w.heap.size w W → ∀ j u, (cs.flatMap fcells)[j]? = some u → W.cell? ⟨b, off + j, none⟩ = some u) := by
    intro W hW j u hj
    have hjl := (List.getElem?_eq_some_iff.1 hj).1
    rw [flat_length fcells 6 (fun _ => rfl), hcl, ← hlen] at hjl
    obtain ⟨e, hb2⟩ := hab (by omega)
    injection e with e; injection e with e1 e2
    subst e1 e2
    exact keep_cell hW (only_cell (hcell j u hj)).2 hb2
  obtain ⟨k, hk⟩ : ∃ k, fieldK o key = k := ⟨_, rfl⟩
  rw [hk] at hke
  have hkl : k ≤ ol := by rw [← hk, hlen]; exact fieldK_le o key
  have hkl2 : k < ol := by rw [← hk, hlen]; exact fieldIs_lt his
  have hkc : k ≤ cs.length := by rw [hcl, ← hlen]; exact hkl
  have hkc2 : k + 1 ≤ cs.length := by rw [hcl, ← hlen]; omega
  have HF : Hid (∀ W, Below w.heap.size w W → Calls Tryd.prog 93 #[.agg #[.int .u8 0, .int .i64 0, .string { data := #[] }, .slice none 0 0, .slice (some ⟨b, off, none⟩) ol oc], .string key] W fun e w' => e = .returned (.tuple #[.int .i64 (k : Int), .bool true]) ∧ Below W.heap.size W w') := by
    intro W hW
    have hof : IsFields W W.heap.size o (some ⟨b, off, none⟩) ol oc := (IsFields.keep (IsFields.sub (shows_only (fun k => B0 ≤ k) w _) ho) hW).more hW.size
    have := field_any W o key 0 0 { data := #[] } none 0 0 (some ⟨b, off, none⟩) ol oc hof
    rw [hk, his] at this; exact this
  have hwf : withF o key x = o.take k ++ (key, x) :: o.drop (k + 1) := by rw [withF, his, hk]; rfl
  rw [hwf]
  have HBX := Lib.hid (BC.start w #[.int .u8 cx.k, .int .i64 cx.n, .string cx.s, .slice cx.la cx.ll cx.lc, .slice cx.oa cx.ol cx.oc] 28)
  have HAL := Lib.hid ((Below.refl _ _).alloc (Nat.le_refl _) (.cells #[.int .u8 cx.k, .int .i64 cx.n, .string cx.s, .slice cx.la cx.ll cx.lc, .slice cx.oa cx.ol cx.oc] 28) : Below w.heap.size w _)
  have HX := Lib.hid hx
  have HPF := Lib.hid hpf
  have HCL := Lib.hid hcl
  have HLEN := Lib.hid hlen
  obtain ⟨R, hR⟩ : ∃ R, WithPost w B0 (o.take k ++ (key, x) :: o.drop (k + 1)) = R := ⟨_, rfl⟩
  rw [hR]
  have HR := Lib.hid hR
  obtain ⟨XA, hXA⟩ : ∃ XA, (cs.take k).flatMap fcells = XA := ⟨_, rfl⟩
  obtain ⟨XB, hXB⟩ : ∃ XB, (cs.drop (k + 1)).flatMap fcells = XB := ⟨_, rfl⟩
  have hla : XA.length = k * 6 := by rw [← hXA, flat_length fcells 6 (fun _ => rfl), List.length_take, Nat.min_eq_left hkc]
  have hlb : XB.length = (ol - (k + 1)) * 6 := by rw [← hXB, flat_length fcells 6 (fun _ => rfl), List.length_drop, hcl, ← hlen]
  have HA1 : Hid (∀ u ∈ XA, u.oneCell' = true) := by unfold Hid; rw [← hXA]; exact flat_one _
  have HB1 : Hid (∀ u ∈ XB, u.oneCell' = true) := by unfold Hid; rw [← hXB]; exact flat_one _
  have HCA : Hid (∀ W, Below w.heap.size w W → ∀ j u, XA[j]? = some u → W.cell? ((⟨b, off, none⟩ : Addr).add j) = some u) := by
    intro W hW j u hj
    rw [← hXA] at hj
    rw [add_at]; exact HCELL.out W hW j u (flat_take_get hj)
  have HCB : Hid (∀ W, Below w.heap.size w W → ∀ j u, XB[j]? = some u → W.cell? ((⟨b, off + (k + 1) * 6, none⟩ : Addr).add j) = some u) := by
    intro W hW j u hj
    rw [← hXB] at hj
    rw [add_at, Nat.add_assoc]; exact HCELL.out W hW _ u (flat_drop_get hkc2 hj)
  have HXA := Lib.hid hXA
  have HXB := Lib.hid hXB
  clear ho hab hcell hk his hx hpf hcl hlen hwf hR hXA hXB hkc hkc2
  have hol : ol = k + 1 := by omega
  have hoc : oc = k + 1 := by omega
  cases hol; cases hoc
  go_enter Tryd.func78, Tryd.ntmps78
  go_wp2_with fail
  refine (HF.out _ HAL.out).mono ?_
  rintro e w1 ⟨rfl, hb1⟩
  have bl1 := HAL.out.trans (hb1.mono (by simp))
  have HBX1 := Lib.hid (HBX.out.keep hb1 (by simp))
  have zs1 : w.heap.size < w1.heap.size := HBX1.out.lt
  have HBL1 := Lib.hid bl1
  have ho1 : w1.ownsRow (w.heap.size + 1) 78 6 (.slice none 0 0) 0 [] := ⟨rfl, .inl ⟨rfl, rfl⟩⟩
  clear hb1 bl1
  go_wp2_with (first
    | (at_builtin; refine wpList_append_own _ rfl (.tmp 17) (.tmp 20) 26 (by rfl) (w.heap.size + 1) 78 i0 _ 6 96 Tryd.underlying26 hi0 hz0 hz1 hz2 rfl (by omega) (.slice none 0 0) 0 [] (by rfl) ho1 ⟨b, off, none⟩ k (k + 1) XA (by rfl) hla (HCA.out _ HBL1.out) HA1.out (by unfold maxLen; omega) (by omega) (by omega) ?_; intro v1 w2 hown1 hgrow1 _; have b12 : Below (w.heap.size + 1) w1 w2 := grown_below hgrow1 (fun k hk => by simp [Value.ownBlock] at hk) (by omega); have BX2 := HBX1.out.keep b12 (by omega); have x0 := BX2.at_ 0 _ rfl; have x1 := BX2.at_ 1 _ rfl; have x2 := BX2.at_ 2 _ rfl; have x3 := BX2.at_ 3 _ rfl; have x4 := BX2.at_ 4 _ rfl; have zs2 := BX2.lt; have HBL2 := Lib.hid (HBL1.out.trans (b12.mono (by omega))); have HO1 := Lib.hid hown1; have hrl : ∀ g, v1.ownBlock = some g → w.heap.size + 1 ≤ g ∧ g < w2.heap.size := hown1.lt; have ho2 := hown1.alloc (.cells #[.string key, .int .u8 cx.k, .int .i64 cx.n, .string cx.s, .slice cx.la cx.ll cx.lc, .slice cx.oa cx.ol cx.oc] 78); have hnw : ∀ j u, (fcells (key, cx))[j]? = some u → (w2.alloc (.cells #[.string key, .int .u8 cx.k, .int .i64 cx.n, .string cx.s, .slice cx.la cx.ll cx.lc, .slice cx.oa cx.ol cx.oc] 78)).cell? ((⟨w2.heap.size, 0, none⟩ : Addr).add j) = some u := World.news_of_block (t := 78) (fr := (0, 0)) (heap_alloc_new w2 (.cells #[.string key, .int .u8 cx.k, .int .i64 cx.n, .string cx.s, .slice cx.la cx.ll cx.lc, .slice cx.oa cx.ol cx.oc] 78)); have HNW := Lib.hid hnw; clear hnw hown1 hgrow1 BX2 b12)
    | (at_builtin; refine wpList_append_own _ rfl (.tmp 22) (.tmp 26) 26 (by rfl) (w.heap.size + 1) 78 i0 _ 6 96 Tryd.underlying26 hi0 hz0 hz1 hz2 rfl (by omega) v1 (0 + k) ([] ++ XA) (by rfl) ho2 ⟨w2.heap.size, 0, none⟩ 1 1 (fcells (key, cx)) (by rfl) (by rfl) HNW.out (fcells_one key cx) (by unfold maxLen; omega) (by omega) (by simp; omega) ?_; intro v2 w4 hown2 hgrow2 _; have b24 : Below (w.heap.size + 1) w2 w4 := (((Below.refl w2.heap.size w2).alloc (Nat.le_refl _) (.cells #[.string key, .int .u8 cx.k, .int .i64 cx.n, .string cx.s, .slice cx.la cx.ll cx.lc, .slice cx.oa cx.ol cx.oc] 78)).mono (by omega)).trans (grown_below hgrow2 (fun k hk => (hrl k hk).1) (by simp; omega)); have HBL4 := Lib.hid (HBL2.out.trans (b24.mono (by omega))); have zs4 : w.heap.size < w4.heap.size := Nat.lt_of_lt_of_le zs2 b24.size; have hrl2 : ∀ g, v2.ownBlock = some g → w.heap.size + 1 ≤ g ∧ g < w4.heap.size := hown2.lt; have HO2 := Lib.hid hown2; clear hgrow2 b24 hown2)
    | (at_builtin; refine wpList_append_own _ rfl (.tmp 31) (.tmp 34) 26 (by rfl) (w.heap.size + 1) 78 i0 _ 6 96 Tryd.underlying26 hi0 hz0 hz1 hz2 rfl (by omega) v2 (0 + k + 1) ([] ++ XA ++ fcells (key, cx)) (by rfl) HO2.out ⟨b, off, none⟩ 0 0 XB (by rfl) (by omega) (fun j u hj => by rw [List.getElem?_eq_none (by omega)] at hj; cases hj) HB1.out (by unfold maxLen; omega) (by omega) (by omega) ?_; intro v3 w5 hown3 hgrow3 _; have b45 : Below (w.heap.size + 1) w4 w5 := grown_below hgrow3 (fun k hk => (hrl2 k hk).1) (by omega); have HBL5 := Lib.hid (HBL4.out.trans (b45.mono (by omega))); have HO3 := Lib.hid hown3; clear hgrow3 b45 hown3))
  rw [← HR.out]
  have hcat : [] ++ XA ++ fcells (key, cx) ++ XB = (cs.take k ++ (key, cx) :: cs.drop (k + 1)).flatMap fcells := by rw [← HXA.out, ← HXB.out]; simp
  have hll : (o.take k ++ (key, x) :: o.drop (k + 1)).length = 0 + k + 1 + 0 := by
    rw [List.length_append, List.length_cons, List.length_drop, List.length_take, ← HLEN.out, Nat.min_eq_left hkl]; omega
  have hown := HO3.out
  rw [hcat, ← hll] at hown
  have hlt3 := hown.lt
  have hsh : Shows (only (fun k => B0 ≤ k) w) (only (Free B0 v3) w5) w.heap.size := shows_step fun q hq hl => ⟨⟨hq, fun e => by have := (hlt3 q e.symm).1; omega⟩, HBL5.out.block q hl⟩
  obtain ⟨a, n, c, hv, hf, hz⟩ := isFields_of_own (B0 := B0) (B1 := w.heap.size + 1) hown (by omega) (by rw [List.length_append, List.length_append, List.length_cons, List.length_cons, List.length_drop, List.length_drop, List.length_take, List.length_take, HCL.out])
    (PF.with_ HCL.out (fun i hi => PF.closed o cs _ _ _ _ i hsh HBL5.out.size (HPF.out i hi)) ((HX.out.sub hsh).more HBL5.out.size) hks (by rw [← HLEN.out]; exact hkl) (by rw [← HLEN.out]; omega)) (by rw [hll]; omega)
  exact ⟨⟨a, n, c, by rw [hv], hf, hz⟩, HBL5.out⟩
end Go.Proofs.YtcfbnmobfcabiaaDoor
namespace Go.Proofs.YtcfbnmobfcabiaaDoor
open Go.RowKit
def Neat (oa : Option Addr) (ol oc : Nat) : Prop := (oa = none ∧ ol = 0 ∧ oc = 0) ∨ 0 < ol
theorem withF_length (o : List (ByteArray × V)) (key : ByteArray) (x : V) : 0 < (withF o key x).length ∧ (withF o key x).length ≤ o.length + 1 := by
  have := fieldK_le o key
  unfold withF
  rw [List.length_append, List.length_cons, List.length_drop, List.length_take, Nat.min_eq_left this]
  refine ⟨by omega, ?_⟩
  split
  · rename_i h; have := fieldIs_lt h; omega
  · omega
def WithPost2 (w : World) (B0 : Nat) (l : List (ByteArray × V)) (e : Ending) (w' : World) : Prop :=
  (∃ a n c, e = .returned (.slice a n c) ∧ IsFields (only (fun b => B0 ≤ b) w') w'.heap.size l a n c ∧ Neat a n c) ∧ Below w.heap.size w w'
set_option maxHeartbeats 2000000 in
set_option maxRecDepth 100000 in
theorem with_any (w : World) (B0 : Nat) (hB0 : B0 ≤ w.heap.size) (o : List (ByteArray × V)) (oa : Option Addr) (ol oc : Nat) (ho : IsFields (only (fun k => B0 ≤ k) w) w.heap.size o oa ol oc) (hne : Neat oa ol oc) (key : ByteArray) (hks : key.size ≤ 140737488355328) (x : V) (xk xn : Int) (xs : ByteArray) (xa : Option Addr) (xl xc : Nat) (ya : Option Addr) (yl yc : Nat) (hx : IsVal (only (fun k => B0 ≤ k) w) w.heap.size x ⟨xk, xn, xs, xa, xl, xc, ya, yl, yc⟩) (hfew : ol ≤ 1000000) :
    Calls Tryd.prog 78 #[.slice oa ol oc, .string key, .agg #[.int .u8 xk, .int .i64 xn, .string xs, .slice xa xl xc, .slice ya yl yc]] w (WithPost2 w B0 (withF o key x)) := by
  have go : Calls Tryd.prog 78 #[.slice oa ol oc, .string key, .agg #[.int .u8 xk, .int .i64 xn, .string xs, .slice xa xl xc, .slice ya yl yc]] w (WithPost w B0 (withF o key x)) := by
    rcases hne with ⟨rfl, rfl, rfl⟩ | hp
    · have : o = [] := List.eq_nil_of_length_eq_zero ho.len.symm
      subst this
      exact with_none w B0 hB0 key hks x ⟨xk, xn, xs, xa, xl, xc, ya, yl, yc⟩ hx
    · obtain ⟨cs, b, off, _, hab, _, _⟩ := ho.cells
      obtain ⟨rfl, hb⟩ := hab hp
      have hlen := ho.len
      have hcap := ho.cap
      have hkl := fieldK_le o key
      cases his : fieldIs o key with
      | false =>
        by_cases hk : fieldK o key = oc
        · exact with_ft w B0 hB0 o b off ol oc ho key hks x ⟨xk, xn, xs, xa, xl, xc, ya, yl, yc⟩ hx hp hfew his hk
        · exact with_ff w B0 hB0 o b off ol oc ho key hks x ⟨xk, xn, xs, xa, xl, xc, ya, yl, yc⟩ hx hp hfew his (by omega)
      | true =>
        have hlt := fieldIs_lt his
        by_cases hk : fieldK o key + 1 = oc
        · exact with_tt w B0 hB0 o b off ol oc ho key hks x ⟨xk, xn, xs, xa, xl, xc, ya, yl, yc⟩ hx hp hfew his hk
        · exact with_tf w B0 hB0 o b off ol oc ho key hks x ⟨xk, xn, xs, xa, xl, xc, ya, yl, yc⟩ hx hp hfew his (by omega)
  refine go.mono ?_
  rintro e w' ⟨⟨a, n, c, rfl, h1, h2⟩, h3⟩
  exact ⟨⟨a, n, c, rfl, h1, .inr (by rw [h1.len]; exact (withF_length o key x).1)⟩, h3⟩
end Go.Proofs.YtcfbnmobfcabiaaDoor
namespace Go.Proofs.YtcfbnmobfcabiaaDoor
open Go.RowKit
def keyP (l : List Tk) (u : Nat) : ByteArray := match l[u]? with
  | some t => plainS t.s
  | none => .empty
def bL (f : List Tk → V × Nat) (l : List Tk) : Nat → List V × Nat
  | 0 => ([], 1)
  | i + 1 => ((bL f l i).1 ++ [(f (l.drop (bL f l i).2)).1], (bL f l i).2 + (f (l.drop (bL f l i).2)).2)
def bO (f : List Tk → V × Nat) (l : List Tk) : Nat → List (ByteArray × V) × Nat
  | 0 => ([], 1)
  | i + 1 => (withF (bO f l i).1 (keyP l (bO f l i).2) (f (l.drop (bO f l i).2)).1, (bO f l i).2 + (f (l.drop (bO f l i).2)).2)
def leafP (t : Tk) : V := if t.k % 6 = 1 then .mk 1 (t.n % 2) .empty [] [] else if t.k % 6 = 2 then .mk 2 t.n .empty [] [] else if t.k % 6 = 3 then .mk 3 0 (plainS t.s) [] []
  else if t.k % 6 = 4 then .mk 4 0 .empty [] [] else if t.k % 6 = 5 then .mk 5 0 .empty [] [] else V.none
def oneP : Nat → List Tk → V × Nat
  | _, [] => (V.none, 0)
  | 0, t :: _ => (leafP t, 1)
  | d + 1, t :: r => if t.k % 6 = 4 then (.mk 4 0 .empty (bL (oneP d) (t :: r) (t.m % 4).toNat).1 [], (bL (oneP d) (t :: r) (t.m % 4).toNat).2)
    else if t.k % 6 = 5 then (.mk 5 0 .empty [] (bO (oneP d) (t :: r) (t.m % 4).toNat).1, (bO (oneP d) (t :: r) (t.m % 4).toNat).2)
    else (leafP t, 1)
theorem bL_used {f : List Tk → V × Nat} (hf : ∀ l, (f l).2 ≤ l.length) {l : List Tk} (hl : 1 ≤ l.length) (j : Nat) : 1 ≤ (bL f l j).2 ∧ (bL f l j).2 ≤ l.length ∧ (bL f l j).1.length = j := by
  induction j with
  | zero => exact ⟨Nat.le_refl _, hl, rfl⟩
  | succ j ih =>
    have := hf (l.drop (bL f l j).2)
    rw [List.length_drop] at this
    rw [bL]
    refine ⟨by dsimp only; omega, by dsimp only; omega, by dsimp only; rw [List.length_append, List.length_singleton]; omega⟩
theorem bO_used {f : List Tk → V × Nat} (hf : ∀ l, (f l).2 ≤ l.length) {l : List Tk} (hl : 1 ≤ l.length) (j : Nat) : 1 ≤ (bO f l j).2 ∧ (bO f l j).2 ≤ l.length ∧ (bO f l j).1.length ≤ j := by
  induction j with
  | zero => exact ⟨Nat.le_refl _, hl, Nat.le_refl _⟩
  | succ j ih =>
    have := hf (l.drop (bO f l j).2)
    rw [List.length_drop] at this
    rw [bO]
    refine ⟨by dsimp only; omega, by dsimp only; omega, ?_⟩
    have := (withF_length (bO f l j).1 (keyP l (bO f l j).2) (f (l.drop (bO f l j).2)).1).2
    dsimp only; omega
theorem oneP_used (d : Nat) : ∀ l, (oneP d l).2 ≤ l.length := by
  induction d with
  | zero =>
    intro l
    cases l with
    | nil => simp [oneP]
    | cons t r => simp [oneP]
  | succ d ih =>
    intro l
    cases l with
    | nil => simp [oneP]
    | cons t r =>
      rw [oneP]
      split
      · exact (bL_used ih (by simp) _).2.1
      · split
        · exact (bO_used ih (by simp) _).2.1
        · simp
theorem plainS_size (s : ByteArray) : (plainS s).size ≤ 40 := by
  show (plainL s.data.toList).toArray.size ≤ 40
  simp [plainL]; omega
theorem keyP_size (l : List Tk) (u : Nat) : (keyP l u).size ≤ 40 := by
  unfold keyP
  split
  · exact plainS_size _
  · decide
end Go.Proofs.YtcfbnmobfcabiaaDoor
namespace Go.Proofs.YtcfbnmobfcabiaaDoor
open Go.RowKit

def scells (s : St) : List Value := [.bool s.list, .int .i64 s.i, .string s.key]
def czero : CC := ⟨0, none, 0, 0, .empty, 0, 0, 0, vzero, .empty⟩
def ccells (c : CC) : List Value := [.int .u8 c.k, .slice c.pa c.pl c.pc, .string c.key, .int .i64 c.i, .int .i64 c.j, .int .i64 c.n, .int .u8 c.v.k, .int .i64 c.v.n, .string c.v.s, .slice c.v.la c.v.ll c.v.lc, .slice c.v.oa c.v.ol c.v.oc, .string c.s]
def PT : World → Nat → Nat → Prop := fun _ _ _ => True
theorem PT.closed : Closed PT := fun _ _ _ _ _ _ _ _ => trivial
abbrev RowS (w : World) (base : Nat) (u : Value) (l : List St) : Prop := Row 104 3 w base u l.length (l.flatMap scells) PT
theorem RowS.steps {w : World} {base lo : Nat} {l : List St} {a : Option Addr} {n cap : Nat} (h : RowS w base (.slice a n cap) l) (hlo : lo ≤ base) (hb : ∀ s ∈ l, s.Bnd) (hfew : l.length ≤ 1466015503701) :
    IsSteps (only (fun b => lo ≤ b) w) w.heap.size l a n cap := by
  obtain ⟨h1, _⟩ := Row.shows PT.closed h hlo
  have hown := h.own
  have hlt := h.lt
  rcases hown.2 with ⟨e, hn⟩ | ⟨g, cap', cur, e, hbg, hg, hnc, hcm, hcs, htake⟩
  · injection e with e1 e2 e3; subst e1 e2 e3
    have : l = [] := List.length_eq_zero_iff.1 hn
    subst this
    exact .nil _ _
  · injection e with e1 e2 e3; subst e1 e2 e3
    refine ⟨rfl, hnc, by simpa [maxLen] using hcm, hfew, g, 0, fun _ => ⟨rfl, (hlt g rfl).2⟩, fun i hi => ⟨?_, hb _ (List.getElem_mem hi)⟩⟩
    have hc : ∀ t x, t < 3 → (scells l[i])[t]? = some x → (only (fun b => lo ≤ b) w).cell? ⟨g, 0 + i * 3 + t, none⟩ = some x := fun t x ht hx => by
      rw [Nat.zero_add]
      exact h1 g rfl (i * 3 + t) x ((flat_get scells 3 (fun _ => rfl) l i t hi ht).trans hx)
    exact ⟨hc 0 _ (by omega) rfl, hc 1 _ (by omega) rfl, hc 2 _ (by omega) rfl⟩

/-- At the head of a round of the path's loop. -/
structure LS (w wr : World) (rb cb : Nat) (d : Int) (kd : Nat) (q : List UInt8) (j : Nat) (a : Option Addr) (m c : Nat) (xs : List St) (rj : List UInt8) : Prop where
  rd : rdL (fun x => rdS x) j q = some (xs, rj)
  len : xs.length = j
  bnd : ∀ s ∈ xs, s.Bnd
  rdr : Rdr wr rb rj d
  st : RStep w wr rb
  res : BC wr w.heap.size (ccells czero)
  box : BC wr cb (ccells ⟨kd, a, m, c, .empty, 0, 0, 0, vzero, .empty⟩)
  row : RowS wr (cb + 1) (.slice a m c) xs
  lo : w.heap.size + 1 ≤ cb
  lt : rb < w.heap.size
theorem LS.round {w wr w4 w5 : World} {rb cb : Nat} {d : Int} {kd : Nat} {q : List UInt8} {j : Nat} {a : Option Addr} {m c : Nat} {xs : List St} {rj r2 : List UInt8} {x : St} {g cap : Nat} {t : TypeId}
    (h : LS w wr rb cb d kd q j a m c xs rj) (hx : rdS rj = some (x, r2)) (hS : RStep wr.drew w4 rb) (hR : Rdr w4 rb r2 d)
    (hown : w5.ownsRow (cb + 1) 104 3 (.slice (some ⟨g, 0, none⟩) (j + 1) cap) (j + 1) (xs.flatMap scells ++ scells x)) (hg : (w4.alloc (.cells #[.bool x.list, .int .i64 x.i, .string x.key] t)).grownBy w5 (Value.slice a m c).ownBlock)
    (hat : (Value.slice a m c).ownBlock = some g ∨ g = w4.heap.size + 1) :
    LS w (w5.setCell ⟨cb, 1, none⟩ (.slice (some ⟨g, 0, none⟩) (j + 1) cap)) rb cb d kd q (j + 1) (some ⟨g, 0, none⟩) (j + 1) cap (xs ++ [x]) r2 := by
  have hlo := h.lo
  have hlt := h.lt
  have hdz : wr.drew.heap.size = wr.heap.size := rfl
  have hb1 := drew_below wr
  have hrow := (h.row.later PT.closed (.of_below rb hb1) (by omega)).later PT.closed hS (by omega)
  have hrlt : ∀ b, (Value.slice a m c).ownBlock = some b → cb + 1 ≤ b ∧ b < wr.heap.size := h.row.lt
  have hba : Below w4.heap.size w4 (w4.alloc (.cells #[.bool x.list, .int .i64 x.i, .string x.key] t)) := (Below.refl _ _).alloc (Nat.le_refl _) _
  have hsz4 : wr.heap.size ≤ w4.heap.size := hS.size
  have hclt := h.box.lt
  have hgb : Below (cb + 1) (w4.alloc (.cells #[.bool x.list, .int .i64 x.i, .string x.key] t)) w5 := grown_below hg (fun b hb => (hrlt b hb).1) (by simp; omega)
  have hb45 : Below (cb + 1) w4 w5 := (hba.mono (by omega)).trans hgb
  have hpush := Row.push PT.closed hrow hba hg (u' := .slice (some ⟨g, 0, none⟩) (j + 1) cap) (news := scells x) (by rw [h.len]; exact hown) (by
    rcases hat with e | e
    · left; rw [e]; rfl
    · right; intro b hb; have : g = b := by simpa [Value.ownBlock] using hb
      omega) (trivial : PT _ _ _) (fun _ _ _ _ _ => trivial)
  have hres := ((h.res.keep hb1 (by omega)).next hS (by omega)).keep hb45 (by omega)
  have hbox := ((h.box.keep hb1 hclt).next hS (by omega)).keep hb45 (by omega)
  have hst : RStep w w5 rb := by
    have h1 : RStep w w4 rb := (h.st.trans (.of_below rb hb1)).trans hS
    exact ⟨hb45.os.trans h1.os, hb45.tape.trans h1.tape, hb45.output.trans h1.output, Nat.le_trans h1.size hb45.size, fun k hk hr => (hb45.block k (by omega)).trans (h1.block k hk hr)⟩
  refine ⟨?_, by simp [h.len], fun s hs => ?_, (hR.below hb45 (by omega)).setNew (by omega), hst.setNew (by omega), hres.far (by omega), hbox.set (i := 1) (x := .slice (some ⟨g, 0, none⟩) (j + 1) cap) (by simp [ccells]), ?_, hlo, hlt⟩
  · rw [rdL, h.rd]; simp only [Option.bind_some, hx]
  · rcases List.mem_append.1 hs with h1 | h1
    · exact h.bnd s h1
    · rw [List.mem_singleton.1 h1]; exact rdS_bnd hx
  · have hr2 : RowS w5 (cb + 1) (.slice (some ⟨g, 0, none⟩) (j + 1) cap) (xs ++ [x]) := by
      show Row _ _ _ _ _ _ _ _
      rw [flat_snoc, List.length_append, List.length_singleton]
      exact hpush
    exact hr2.set PT.closed (by omega)

/-- What reader.comp comes to. -/
def RCPost (w : World) (rb : Nat) (d : Int) (r : Option (Cm × List UInt8)) (e : Ending) (w' : World) : Prop :=
  RStep w w' rb ∧ match r with
    | some (x, r) => (∃ c : CC, e = .returned (.agg #[.int .u8 c.k, .slice c.pa c.pl c.pc, .string c.key, .int .i64 c.i, .int .i64 c.j, .int .i64 c.n, .int .u8 c.v.k, .int .i64 c.v.n, .string c.v.s, .slice c.v.la c.v.ll c.v.lc, .slice c.v.oa c.v.ol c.v.oc, .string c.s]) ∧ IsComp (only (fun b => w.heap.size ≤ b) w') w'.heap.size x c) ∧ Rdr w' rb r d
    | none => e = .panicked [short] ∧ ∃ bs', Rdr w' rb bs' d
/-- Behind the path's loop. -/
structure CB (w W : World) (rb cb : Nat) (d : Int) (r : List UInt8) (p : List St) (v : V) (c : CC) : Prop where
  rdr : Rdr W rb r d
  st : RStep w W rb
  res : BC W w.heap.size (ccells czero)
  box : BC W cb (ccells c)
  stp : IsSteps (only (fun b => cb + 1 ≤ b) W) W.heap.size p c.pa c.pl c.pc
  val : IsVal (only (fun b => cb + 1 ≤ b) W) W.heap.size v c.v
  lo : w.heap.size + 1 ≤ cb
  lt : rb < w.heap.size
theorem isSteps_far {W W' : World} {b base : Nat} {p : List St} {a : Option Addr} {n c : Nat} (h : IsSteps (only (fun k => base ≤ k) W) W.heap.size p a n c) (s : RStep W W' b) (hb : b < base) : IsSteps (only (fun k => base ≤ k) W') W'.heap.size p a n c :=
  (h.sub (shows_step fun k hk hl => ⟨hk, s.block k hl (by omega)⟩)).more s.size
theorem CB.next {w W W' : World} {rb cb : Nat} {d : Int} {r r' : List UInt8} {p : List St} {v : V} {c : CC} (h : CB w W rb cb d r p v c) (s : RStep W W' rb) (hR : Rdr W' rb r' d) : CB w W' rb cb d r' p v c := by
  have hlo := h.lo; have hlt := h.lt
  exact ⟨hR, h.st.trans s, h.res.next s (by omega), h.box.next s (by omega), isSteps_far h.stp s (by omega), isVal_far h.val s (by omega), hlo, hlt⟩
theorem CB.start {w wr : World} {rb cb : Nat} {d : Int} {kd : Nat} {q : List UInt8} {j : Nat} {a : Option Addr} {m c : Nat} {xs : List St} {rj : List UInt8} (h : LS w wr rb cb d kd q j a m c xs rj) (hfew : j ≤ 1466015503701) : CB w wr rb cb d rj xs V.none ⟨kd, a, m, c, .empty, 0, 0, 0, vzero, .empty⟩ :=
  ⟨h.rdr, h.st, h.res, h.box, h.row.steps (Nat.le_refl _) h.bnd (by rw [h.len]; exact hfew), isVal_none _ _, h.lo, h.lt⟩
theorem CB.set1 {w W W' : World} {rb cb : Nat} {d : Int} {r : List UInt8} {p : List St} {v : V} {c c' : CC} (h : CB w W rb cb d r p v c) (s : RStep W W' cb) (hbox : BC W' cb (ccells c')) (e1 : c'.pa = c.pa) (e2 : c'.pl = c.pl) (e3 : c'.pc = c.pc) (e4 : c'.v = c.v) : CB w W' rb cb d r p v c' := by
  have hlo := h.lo; have hlt := h.lt
  have hst : RStep w W' rb := ⟨s.os.trans h.st.os, s.tape.trans h.st.tape, s.output.trans h.st.output, Nat.le_trans h.st.size s.size, fun k hk hr => (s.block k (Nat.lt_of_lt_of_le hk h.st.size) (by omega)).trans (h.st.block k hk hr)⟩
  refine ⟨h.rdr.below (s.below (Nat.le_of_lt h.box.lt)) (by omega), hst, h.res.next s (by omega), hbox, ?_, ?_, hlo, hlt⟩
  · rw [e1, e2, e3]; exact isSteps_far h.stp s (by omega)
  · rw [e4]; exact isVal_far h.val s (by omega)
theorem CB.value {w W W' W2 : World} {rb cb : Nat} {d : Int} {r r' : List UInt8} {p : List St} {v v' : V} {c c' : CC} (h : CB w W rb cb d r p v c) (s : RStep W W' rb) (hR : Rdr W' rb r' d) (hv : IsVal (only (fun b => W.heap.size ≤ b) W') W'.heap.size v' c'.v) (s2 : RStep W' W2 cb) (hbox : BC W2 cb (ccells c')) (e1 : c'.pa = c.pa) (e2 : c'.pl = c.pl) (e3 : c'.pc = c.pc) : CB w W2 rb cb d r' p v' c' := by
  have hlo := h.lo; have hlt := h.lt
  have hcl := h.box.lt
  have h1 := h.next s hR
  have hst : RStep w W2 rb := ⟨s2.os.trans h1.st.os, s2.tape.trans h1.st.tape, s2.output.trans h1.st.output, Nat.le_trans h1.st.size s2.size, fun k hk hr => (s2.block k (Nat.lt_of_lt_of_le hk h1.st.size) (by omega)).trans (h1.st.block k hk hr)⟩
  refine ⟨h1.rdr.below (s2.below (Nat.le_of_lt h1.box.lt)) (by omega), hst, h1.res.next s2 (by omega), hbox, ?_, ?_, hlo, hlt⟩
  · rw [e1, e2, e3]; exact isSteps_far h1.stp s2 (by omega)
  · exact isVal_far ((hv.sub (shows_step fun k hk hl => ⟨by omega, rfl⟩))) s2 (by omega)
theorem results_comp {tmps : Array Value} {W : World} {b : Nat} {c : CC} (ht : tmps[2]? = some (.pointer (some ⟨b, 0, none⟩))) (h : BC W b (ccells c)) : (results Tryd.f49 tmps).run Tryd.prog W = .ok (.agg #[.int .u8 c.k, .slice c.pa c.pl c.pc, .string c.key, .int .i64 c.i, .int .i64 c.j, .int .i64 c.n, .int .u8 c.v.k, .int .i64 c.v.n, .string c.v.s, .slice c.v.la c.v.ll c.v.lc, .slice c.v.oa c.v.ol c.v.oc, .string c.s]) W := by
  have h0 := h.at_ 0 _ rfl
  have h1 := h.at_ 1 _ rfl
  have h2 := h.at_ 2 _ rfl
  have h3 := h.at_ 3 _ rfl
  have h4 := h.at_ 4 _ rfl
  have h5 := h.at_ 5 _ rfl
  have h6 := h.at_ 6 _ rfl
  have h7 := h.at_ 7 _ rfl
  have h8 := h.at_ 8 _ rfl
  have h9 := h.at_ 9 _ rfl
  have h10 := h.at_ 10 _ rfl
  have h11 := h.at_ 11 _ rfl
  simp [results, Tryd.results49, go_sem, ht, h0, h1, h2, h3, h4, h5, h6, h7, h8, h9, h10, h11]
/-- The function is left. -/
theorem CB.leave {w W : World} {rb cb : Nat} {d : Int} {r : List UInt8} {p : List St} {v : V} {c : CC} {x : Cm} {a : Act} (h : CB w W rb cb d r p v c) (hb : c.Bnd) (hx : x = ⟨c.k, p, c.key, c.i, c.j, c.n, v, c.s⟩) (hd : a.defers = []) (ht : a.tmps[2]? = some (.pointer (some ⟨w.heap.size, 0, none⟩))) :
    bodyPost Tryd.prog Tryd.f49 (RCPost w rb d (some (x, r))) .ret a ((((((((((((W.setCell ⟨w.heap.size, 0, none⟩ (.int .u8 c.k)).setCell ⟨w.heap.size, 1, none⟩ (.slice c.pa c.pl c.pc)).setCell ⟨w.heap.size, 2, none⟩ (.string c.key)).setCell ⟨w.heap.size, 3, none⟩ (.int .i64 c.i)).setCell ⟨w.heap.size, 4, none⟩ (.int .i64 c.j)).setCell ⟨w.heap.size, 5, none⟩ (.int .i64 c.n)).setCell ⟨w.heap.size, 6, none⟩ (.int .u8 c.v.k)).setCell ⟨w.heap.size, 7, none⟩ (.int .i64 c.v.n)).setCell ⟨w.heap.size, 8, none⟩ (.string c.v.s)).setCell ⟨w.heap.size, 9, none⟩ (.slice c.v.la c.v.ll c.v.lc)).setCell ⟨w.heap.size, 10, none⟩ (.slice c.v.oa c.v.ol c.v.oc)).setCell ⟨w.heap.size, 11, none⟩ (.string c.s)) := by
  have hlo := h.lo; have hlt := h.lt
  have hs : RStep W ((((((((((((W.setCell ⟨w.heap.size, 0, none⟩ (.int .u8 c.k)).setCell ⟨w.heap.size, 1, none⟩ (.slice c.pa c.pl c.pc)).setCell ⟨w.heap.size, 2, none⟩ (.string c.key)).setCell ⟨w.heap.size, 3, none⟩ (.int .i64 c.i)).setCell ⟨w.heap.size, 4, none⟩ (.int .i64 c.j)).setCell ⟨w.heap.size, 5, none⟩ (.int .i64 c.n)).setCell ⟨w.heap.size, 6, none⟩ (.int .u8 c.v.k)).setCell ⟨w.heap.size, 7, none⟩ (.int .i64 c.v.n)).setCell ⟨w.heap.size, 8, none⟩ (.string c.v.s)).setCell ⟨w.heap.size, 9, none⟩ (.slice c.v.la c.v.ll c.v.lc)).setCell ⟨w.heap.size, 10, none⟩ (.slice c.v.oa c.v.ol c.v.oc)).setCell ⟨w.heap.size, 11, none⟩ (.string c.s)) w.heap.size := (((((((((((RStep.self.trans RStep.self).trans RStep.self).trans RStep.self).trans RStep.self).trans RStep.self).trans RStep.self).trans RStep.self).trans RStep.self).trans RStep.self).trans RStep.self).trans RStep.self)
  have hbc : BC ((((((((((((W.setCell ⟨w.heap.size, 0, none⟩ (.int .u8 c.k)).setCell ⟨w.heap.size, 1, none⟩ (.slice c.pa c.pl c.pc)).setCell ⟨w.heap.size, 2, none⟩ (.string c.key)).setCell ⟨w.heap.size, 3, none⟩ (.int .i64 c.i)).setCell ⟨w.heap.size, 4, none⟩ (.int .i64 c.j)).setCell ⟨w.heap.size, 5, none⟩ (.int .i64 c.n)).setCell ⟨w.heap.size, 6, none⟩ (.int .u8 c.v.k)).setCell ⟨w.heap.size, 7, none⟩ (.int .i64 c.v.n)).setCell ⟨w.heap.size, 8, none⟩ (.string c.v.s)).setCell ⟨w.heap.size, 9, none⟩ (.slice c.v.la c.v.ll c.v.lc)).setCell ⟨w.heap.size, 10, none⟩ (.slice c.v.oa c.v.ol c.v.oc)).setCell ⟨w.heap.size, 11, none⟩ (.string c.s)) w.heap.size (ccells c) := ((((((((((((h.res.set (i := 0) (x := .int .u8 c.k) (by simp [ccells])).set (i := 1) (x := .slice c.pa c.pl c.pc) (by simp [ccells])).set (i := 2) (x := .string c.key) (by simp [ccells])).set (i := 3) (x := .int .i64 c.i) (by simp [ccells])).set (i := 4) (x := .int .i64 c.j) (by simp [ccells])).set (i := 5) (x := .int .i64 c.n) (by simp [ccells])).set (i := 6) (x := .int .u8 c.v.k) (by simp [ccells])).set (i := 7) (x := .int .i64 c.v.n) (by simp [ccells])).set (i := 8) (x := .string c.v.s) (by simp [ccells])).set (i := 9) (x := .slice c.v.la c.v.ll c.v.lc) (by simp [ccells])).set (i := 10) (x := .slice c.v.oa c.v.ol c.v.oc) (by simp [ccells])).set (i := 11) (x := .string c.s) (by simp [ccells]))
  have hst : RStep w ((((((((((((W.setCell ⟨w.heap.size, 0, none⟩ (.int .u8 c.k)).setCell ⟨w.heap.size, 1, none⟩ (.slice c.pa c.pl c.pc)).setCell ⟨w.heap.size, 2, none⟩ (.string c.key)).setCell ⟨w.heap.size, 3, none⟩ (.int .i64 c.i)).setCell ⟨w.heap.size, 4, none⟩ (.int .i64 c.j)).setCell ⟨w.heap.size, 5, none⟩ (.int .i64 c.n)).setCell ⟨w.heap.size, 6, none⟩ (.int .u8 c.v.k)).setCell ⟨w.heap.size, 7, none⟩ (.int .i64 c.v.n)).setCell ⟨w.heap.size, 8, none⟩ (.string c.v.s)).setCell ⟨w.heap.size, 9, none⟩ (.slice c.v.la c.v.ll c.v.lc)).setCell ⟨w.heap.size, 10, none⟩ (.slice c.v.oa c.v.ol c.v.oc)).setCell ⟨w.heap.size, 11, none⟩ (.string c.s)) rb := ⟨hs.os.trans h.st.os, hs.tape.trans h.st.tape, hs.output.trans h.st.output, Nat.le_trans h.st.size hs.size, fun k hk hr => (hs.block k (Nat.lt_of_lt_of_le hk h.st.size) (by omega)).trans (h.st.block k hk hr)⟩
  have hstp := isSteps_far h.stp hs (by omega)
  have hval := isVal_far h.val hs (by omega)
  refine ⟨hd, _, results_comp ht hbc, hst, ⟨c, rfl, ?_⟩, h.rdr.below (hs.below (by have := h.res.lt; omega)) hlt⟩
  subst hx
  exact .mk c p v hb (hstp.sub (shows_step fun k hk _ => ⟨by omega, rfl⟩)) (hval.sub (shows_step fun k hk _ => ⟨by omega, rfl⟩))
end Go.Proofs.YtcfbnmobfcabiaaDoor
namespace Go.Proofs.YtcfbnmobfcabiaaDoor
open Go.RowKit
theorem rdN_len {k n : Nat} {bs r : List UInt8} (h : rdN k bs = some (n, r)) : k + r.length = bs.length := by
  obtain ⟨h1, _, rfl⟩ := rdN_some h
  rw [List.length_drop]; omega
theorem rdM_len {k n : Nat} {bs r : List UInt8} (h : rdM k bs = some (n, r)) : k + r.length = bs.length := rdN_len (rdM_some h).1
theorem rdT_len {bs r : List UInt8} {s : ByteArray} (h : rdT bs = some (s, r)) : (encS s).length + r.length = bs.length := by
  obtain ⟨n, q, h1, rfl, rfl⟩ := rdT_some h
  have h2 := rdM_len h1
  have h3 := (rdM_some h1).2
  have h4 : (⟨(q.take n).toArray⟩ : ByteArray).size = (q.take n).length := by simp [ByteArray.size]
  rw [encS_length, h4, List.length_take, List.length_drop]
  omega
theorem rdL_len {α : Type} {f : List UInt8 → Option (α × List UInt8)} (enc : List α → List UInt8) (wt : List α → Nat) (he0 : (enc []).length = 0) (hw0 : wt [] = 0)
    (hs : ∀ xs x bs r, f bs = some (x, r) → wt xs ≤ (enc xs).length → (enc (xs ++ [x])).length + r.length = (enc xs).length + bs.length ∧ wt (xs ++ [x]) ≤ (enc (xs ++ [x])).length) :
    ∀ (n : Nat) (bs : List UInt8) (xs : List α) (r : List UInt8), rdL f n bs = some (xs, r) → (enc xs).length + r.length = bs.length ∧ wt xs ≤ (enc xs).length := by
  intro n
  induction n with
  | zero =>
    intro bs xs r h
    rw [rdL] at h
    injection h with h; injection h with h1 h2; subst h1 h2
    exact ⟨by omega, by omega⟩
  | succ n ih =>
    intro bs xs r h
    rw [rdL] at h
    cases h1 : rdL f n bs with
    | none => rw [h1] at h; cases h
    | some p =>
      obtain ⟨ys, q⟩ := p
      rw [h1] at h
      simp only [Option.bind_some] at h
      cases h2 : f q with
      | none => rw [h2] at h; cases h
      | some t =>
        obtain ⟨x, q2⟩ := t
        rw [h2] at h
        simp only [Option.bind_some] at h
        injection h with h; injection h with h3 h4; subst h3 h4
        obtain ⟨a, b⟩ := ih bs ys q h1
        obtain ⟨c, d⟩ := hs ys x q q2 h2 b
        exact ⟨by omega, d⟩
theorem rdV_len (k : Nat) : ∀ (bs : List UInt8) (v : V) (r : List UInt8), rdV k bs = some (v, r) → (encV v).length + r.length = bs.length ∧ v.weight ≤ (encV v).length := by
  induction k with
  | zero => intro bs v r h; cases h
  | succ k ih =>
    intro bs v r h
    rw [rdV] at h
    cases h1 : rdN 1 bs with
    | none => rw [h1] at h; cases h
    | some p =>
      obtain ⟨kd, q⟩ := p
      have hq := rdN_len h1
      rw [h1] at h
      simp only [Option.bind_some] at h
      by_cases e12 : kd = 1 ∨ kd = 2
      · rw [if_pos e12] at h
        cases h2 : rdN 8 q with
        | none => rw [h2] at h; cases h
        | some p2 =>
          obtain ⟨n, q2⟩ := p2
          have hq2 := rdN_len h2
          rw [h2] at h
          simp only [Option.bind_some] at h
          injection h with h; injection h with h3 h4; subst h3 h4
          have e12' : (kd : Int) = 1 ∨ (kd : Int) = 2 := by omega
          rw [encV, if_pos e12', List.length_append, be_length, be_length]
          simp only [V.weight, weightL, weightO, show ByteArray.empty.size = 0 from rfl]
          omega
      · rw [if_neg e12] at h
        have e12' : ¬ ((kd : Int) = 1 ∨ (kd : Int) = 2) := by omega
        by_cases e3 : kd = 3
        · rw [if_pos e3] at h
          cases h2 : rdT q with
          | none => rw [h2] at h; cases h
          | some p2 =>
            obtain ⟨s, q2⟩ := p2
            have hq2 := rdT_len h2
            rw [h2] at h
            simp only [Option.bind_some] at h
            injection h with h; injection h with h3 h4; subst h3 h4
            have e3' : (kd : Int) = 3 := by omega
            rw [encV, if_neg e12', if_pos e3', List.length_append, be_length]
            rw [encS_length] at *
            simp only [V.weight, weightL, weightO]
            omega
        · rw [if_neg e3] at h
          have e3' : ¬ (kd : Int) = 3 := by omega
          by_cases e4 : kd = 4
          · rw [if_pos e4] at h
            have e4' : (kd : Int) = 4 := by omega
            cases h2 : rdM 4 q with
            | none => rw [h2] at h; cases h
            | some p2 =>
              obtain ⟨n, q2⟩ := p2
              have hq2 := rdM_len h2
              rw [h2] at h
              simp only [Option.bind_some] at h
              cases h3 : rdL (fun x => rdV k x) n q2 with
              | none => rw [h3] at h; cases h
              | some p3 =>
                obtain ⟨l, q3⟩ := p3
                rw [h3] at h
                simp only [Option.bind_some] at h
                injection h with h; injection h with h4 h5; subst h4 h5
                obtain ⟨a, b⟩ := rdL_len (f := fun x => rdV k x) encL weightL rfl rfl (fun xs x bs r hx hw => by
                  obtain ⟨c, d⟩ := ih bs x r hx
                  rw [encL_append, List.length_append, weightL_append]
                  simp only [encL, weightL, List.append_nil]
                  omega) n q2 l q3 h3
                rw [encV, if_neg e12', if_neg e3', if_pos e4', List.length_append, List.length_append, be_length, be_length]
                simp only [V.weight, weightO, show ByteArray.empty.size = 0 from rfl]
                omega
          · rw [if_neg e4] at h
            have e4' : ¬ (kd : Int) = 4 := by omega
            by_cases e5 : kd = 5
            · rw [if_pos e5] at h
              have e5' : (kd : Int) = 5 := by omega
              cases h2 : rdM 4 q with
              | none => rw [h2] at h; cases h
              | some p2 =>
                obtain ⟨n, q2⟩ := p2
                have hq2 := rdM_len h2
                rw [h2] at h
                simp only [Option.bind_some] at h
                cases h3 : rdL (fun x => (rdT x).bind fun y => (rdV k y.2).bind fun z => some ((y.1, z.1), z.2)) n q2 with
                | none => rw [h3] at h; cases h
                | some p3 =>
                  obtain ⟨o, q3⟩ := p3
                  rw [h3] at h
                  simp only [Option.bind_some] at h
                  injection h with h; injection h with h4 h5; subst h4 h5
                  obtain ⟨a, b⟩ := rdL_len (f := fun x => (rdT x).bind fun y => (rdV k y.2).bind fun z => some ((y.1, z.1), z.2)) encO weightO rfl rfl (fun xs x bs r hx hw => by
                    cases g1 : rdT bs with
                    | none => rw [g1] at hx; cases hx
                    | some t1 =>
                      obtain ⟨s, r1⟩ := t1
                      rw [g1] at hx
                      simp only [Option.bind_some] at hx
                      cases g2 : rdV k r1 with
                      | none => rw [g2] at hx; cases hx
                      | some t2 =>
                        obtain ⟨y, r2⟩ := t2
                        rw [g2] at hx
                        simp only [Option.bind_some] at hx
                        injection hx with hx; injection hx with hx1 hx2; subst hx1 hx2
                        obtain ⟨c, d⟩ := ih r1 y r2 g2
                        have e := rdT_len g1
                        rw [encO_append, List.length_append, weightO_append]
                        simp only [encO, encF, weightO, weightF, List.append_nil, List.length_append]
                        rw [encS_length] at *
                        omega) n q2 o q3 h3
                  rw [encV, if_neg e12', if_neg e3', if_neg e4', if_pos e5', List.length_append, List.length_append, be_length, be_length]
                  simp only [V.weight, weightL, show ByteArray.empty.size = 0 from rfl]
                  omega
            · rw [if_neg e5] at h
              have e5' : ¬ (kd : Int) = 5 := by omega
              injection h with h; injection h with h3 h4; subst h3 h4
              rw [encV, if_neg e12', if_neg e3', if_neg e4', if_neg e5', List.append_nil, be_length]
              simp only [V.weight, weightL, weightO, show ByteArray.empty.size = 0 from rfl]
              omega

noncomputable def eqBs (a b : List UInt8) : Bool := @decide (a = b) (Classical.propDecidable _)
theorem bytes_inj {a b : List UInt8} : ((⟨a.toArray⟩ : ByteArray) = ⟨b.toArray⟩) ↔ a = b := by
  constructor
  · intro h
    have := congrArg (fun x : ByteArray => x.data.toList) h
    simpa using this
  · rintro rfl; rfl
theorem equal_any (w : World) (B B' : Nat) (a a' : Option Addr) (n n' c c' : Nat) (bs bs' : List UInt8) (h : IsB w B a n c bs) (h' : IsB w B' a' n' c' bs') :
    Calls Tryd.prog 45 #[.slice a n c, .slice a' n' c'] w fun e w' => e = .returned (.bool (eqBs bs bs')) ∧ w' = w := by
  have k1 := conv_isB h
  have k2 := conv_isB h'
  clear h h'
  by_cases e : bs = bs'
  · have hE : eqBs bs bs' = true := by simp [eqBs, e]
    rw [hE]
    subst e
    go_enter Tryd.func45, Tryd.ntmps45
    go_wp2_with fail
    go_returns
    exact ⟨by first | rfl | simp, rfl⟩
  · have hE : eqBs bs bs' = false := by simp [eqBs, e]
    rw [hE]
    have HE := Lib.hid e
    clear e
    go_enter Tryd.func45, Tryd.ntmps45
    go_wp2_with fail
    go_returns
    exact ⟨by simp; exact HE.out, rfl⟩
end Go.Proofs.YtcfbnmobfcabiaaDoor
namespace Go.Proofs.YtcfbnmobfcabiaaDoor
open Go.RowKit
theorem rdS_len {bs r : List UInt8} {s : St} (h : rdS bs = some (s, r)) : (encSt s).length + r.length = bs.length := by
  rw [rdS, Option.bind_eq_some_iff] at h
  obtain ⟨p, hp, h⟩ := h
  have h1 := rdN_len hp
  by_cases e : p.1 = 1
  · rw [if_pos e, Option.bind_eq_some_iff] at h
    obtain ⟨q, hq, h⟩ := h
    have h2 := rdN_len hq
    injection h with h; injection h with ha hb; subst ha hb
    rw [encSt, if_pos rfl, List.length_append, be_length, be_length]
    omega
  · rw [if_neg e, Option.bind_eq_some_iff] at h
    obtain ⟨q, hq, h⟩ := h
    have h2 := rdT_len hq
    injection h with h; injection h with ha hb; subst ha hb
    rw [encSt, if_neg (by simp), List.length_append, be_length]
    dsimp only
    omega
theorem rdI_len {bs r : List UInt8} {i : Int} (h : rdI bs = some (i, r)) : (be (i % 18446744073709551616).toNat 8).length + r.length = bs.length := by
  rw [rdI, Option.bind_eq_some_iff] at h
  obtain ⟨q, hq, h⟩ := h
  have h2 := rdN_len hq
  injection h with h; injection h with ha hb; subst hb
  rw [be_length]; omega
theorem rdIf_len {α : Type} {b : Bool} {z x : α} {f : List UInt8 → Option (α × List UInt8)} {bs r : List UInt8} (enc : α → List UInt8) (hf : ∀ bs x r, f bs = some (x, r) → (enc x).length + r.length = bs.length) (h : rdIf b z f bs = some (x, r)) :
    (if b = true then enc x else []).length + r.length = bs.length := by
  rw [rdIf] at h
  by_cases e : b = true
  · rw [if_pos e] at h; rw [if_pos e]; exact hf _ _ _ h
  · rw [if_neg e] at h; rw [if_neg e]
    injection h with h; injection h with ha hb; subst hb
    simp
theorem rdIf_wt {b : Bool} {x : V} {bs r : List UInt8} (h : rdIf b V.none (rdV 18) bs = some (x, r)) : x.weight ≤ bs.length + 1 := by
  rw [rdIf] at h
  by_cases e : b = true
  · rw [if_pos e] at h
    have := rdV_len 18 _ _ _ h
    omega
  · rw [if_neg e] at h
    injection h with h; injection h with ha hb; subst ha
    simp [V.none, V.weight, weightL, weightO]
theorem rdC_len {bs r : List UInt8} {c : Cm} (h : rdC bs = some (c, r)) : (encC c).length + r.length = bs.length ∧ c.v.weight ≤ bs.length + 1 := by
  rw [rdC] at h
  simp only [Option.bind_eq_some_iff] at h
  obtain ⟨p, hp, n, hn, q, hq, k, hk, i, hi, j, hj, m, hm, v, hv, s, hs, he⟩ := h
  have h1 := rdN_len hp
  have h2 := rdM_len hn
  have h3 := (rdL_len (f := rdS) encP (fun _ => 0) rfl rfl (fun xs x bs r hx _ => by
    have := rdS_len hx
    rw [encP_append, List.length_append]
    simp only [encP, List.append_nil]
    omega) _ _ _ _ hq).1
  have h4 := rdIf_len encS (fun _ _ _ g => rdT_len g) hk
  have h5 := rdIf_len (fun i : Int => be (i % 18446744073709551616).toNat 8) (fun _ _ _ g => rdI_len g) hi
  have h6 := rdIf_len (fun i : Int => be (i % 18446744073709551616).toNat 8) (fun _ _ _ g => rdI_len g) hj
  have h7 := rdIf_len (fun i : Int => be (i % 18446744073709551616).toNat 8) (fun _ _ _ g => rdI_len g) hm
  have h8 := rdIf_len encV (fun _ _ _ g => (rdV_len 18 _ _ _ g).1) hv
  have h9 := rdIf_len encS (fun _ _ _ g => rdT_len g) hs
  have h10 := rdIf_wt hv
  injection he with he; injection he with ha hb; subst ha hb
  refine ⟨?_, by dsimp only; omega⟩
  rw [encC, encT]
  simp only [List.length_append, be_length]
  omega
theorem rdCs_len {n : Nat} {bs r : List UInt8} {l : List Cm} (h : rdL rdC n bs = some (l, r)) : (encCs l).length + r.length = bs.length ∧ ∀ x ∈ l, x.v.weight ≤ bs.length + 1 := by
  induction n generalizing bs l r with
  | zero =>
    rw [rdL] at h
    injection h with h; injection h with ha hb; subst ha hb
    exact ⟨by simp [encCs], by simp⟩
  | succ n ih =>
    rw [rdL] at h
    simp only [Option.bind_eq_some_iff] at h
    obtain ⟨p, hp, q, hq, he⟩ := h
    obtain ⟨a, b⟩ := ih hp
    obtain ⟨c, d⟩ := rdC_len hq
    injection he with he; injection he with ha hb; subst ha hb
    refine ⟨?_, fun x hx => ?_⟩
    · rw [encCs_append, List.length_append]
      simp only [encCs, List.append_nil]
      omega
    · rcases List.mem_append.mp hx with hx | hx
      · exact b x hx
      · rw [List.mem_singleton] at hx; subst hx; omega
theorem rdE_len {bs r : List UInt8} {e : En} (h : rdE bs = some (e, r)) : (encE e).length + r.length = bs.length ∧ e.v.weight ≤ bs.length + 1 ∧ ∀ x ∈ e.op, x.v.weight ≤ bs.length + 1 := by
  have hw : V.none.weight = 1 := by simp [V.none, V.weight, weightL, weightO]
  rw [rdE] at h
  simp only [Option.bind_eq_some_iff] at h
  obtain ⟨p, hp, s, hs, q, hq, h⟩ := h
  have h1 := rdN_len hp
  have h2 := rdN_len hs
  have h3 := rdN_len hq
  by_cases e1 : p.1 = 1
  · rw [if_pos e1, Option.bind_eq_some_iff] at h
    obtain ⟨v, hv, he⟩ := h
    have h4 := rdV_len 18 _ _ _ hv
    injection he with he; injection he with ha hb; subst ha hb
    refine ⟨?_, by dsimp only; omega, by simp⟩
    have e1' : (p.1 : Int) = 1 := by omega
    simp only [encE, if_pos e1', List.length_append, be_length]
    omega
  · rw [if_neg e1] at h
    have e1' : ¬ (p.1 : Int) = 1 := by omega
    by_cases e2 : p.1 = 2
    · rw [if_pos e2, Option.bind_eq_some_iff] at h
      obtain ⟨n, hn, h⟩ := h
      rw [Option.bind_eq_some_iff] at h
      obtain ⟨l, hl, he⟩ := h
      have h4 := rdM_len hn
      obtain ⟨h5, h6⟩ := rdCs_len hl
      injection he with he; injection he with ha hb; subst ha hb
      have e2' : (p.1 : Int) = 2 := by omega
      refine ⟨?_, by dsimp only; omega, fun x hx => by have := h6 x hx; omega⟩
      simp only [encE, if_neg e1', if_pos e2', List.length_append, be_length]
      omega
    · rw [if_neg e2] at h
      have e2' : ¬ (p.1 : Int) = 2 := by omega
      injection h with he; injection he with ha hb; subst ha hb
      refine ⟨?_, by dsimp only; omega, by simp⟩
      simp only [encE, if_neg e1', if_neg e2', List.length_append, be_length, List.length_nil]
      omega
end Go.Proofs.YtcfbnmobfcabiaaDoor
namespace Go.Proofs.YtcfbnmobfcabiaaDoor
open Go.RowKit

theorem short_asserted (w : World) : (Instr.typeAssert (.iface 95 (.agg #[])) 20 95 true).run Tryd.prog w = .ok (.tuple #[.agg #[], .bool true]) w := by kernel_rfl
theorem short_not_nil (w : World) : (binOp .eql 20 (.iface 95 (.agg #[])) .nilIface).run Tryd.prog w = .ok (.bool false) w := by kernel_rfl

theorem catchV_idle (nb ob eb : Nat) (w : World) :
    CallsD Tryd.prog 55 #[.pointer (some ⟨nb, 0, none⟩), .pointer (some ⟨ob, 0, none⟩), .pointer (some ⟨eb, 0, none⟩)] .returning w fun e u' w' => e = .returned (.tuple #[]) ∧ u' = .returning ∧ w' = w := by
  refine callsD_of_wpS Tryd.func55 rfl fun c₀ cs hu => ?_
  apply wpS_seq
  apply wpS_region
  simp [wpOpsS, go_sem, recoverD, hu, Tryd.ntmps55, Exit.thenS]
  refine wpS_of_wp ?_
  go_wp2_with fail
  cases c₀
  simp_all [bodyPostS, results, Tryd.results55]
set_option maxHeartbeats 2000000 in
set_option maxRecDepth 100000 in
theorem catchV_short (nb ob eb : Nat) (w : World) (hn : BC w nb [.int .u8 0, .int .i64 0, .string { data := #[] }, .slice none 0 0, .slice none 0 0]) (cs0 : List Value) (ho : BC w ob cs0) (hl : cs0.length = 5) (x0 : Value) (he : BC w eb [x0]) (h2 : ob ≠ eb) (h3 : eb ≠ nb) :
    CallsD Tryd.prog 55 #[.pointer (some ⟨nb, 0, none⟩), .pointer (some ⟨ob, 0, none⟩), .pointer (some ⟨eb, 0, none⟩)] (.panicking [short]) w fun e u' w' => e = .returned (.tuple #[]) ∧ u' = .panicking [{ v := .iface 95 (.agg #[]), recovered := true }] ∧ w' = (((((((w.setCell ⟨ob, 0, none⟩ (.int .u8 0)).setCell ⟨ob, 1, none⟩ (.int .i64 0)).setCell ⟨ob, 2, none⟩ (.string { data := #[] })).setCell ⟨ob, 3, none⟩ (.slice none 0 0)).setCell ⟨ob, 4, none⟩ (.slice none 0 0)).setCell ⟨eb, 0, none⟩ (.int .u16 100)).alloc (.cells #[] 95)) := by
  refine callsD_of_wpS Tryd.func55 rfl fun c₀ cs hu => ?_
  have hu3 : c₀.mode = .panicking [{ v := .iface 95 (.agg #[]), recovered := false }] := hu
  obtain ⟨ty, hty⟩ : ∃ ty : TypeId, 95 = ty := ⟨_, rfl⟩
  obtain ⟨pv, hpv⟩ : ∃ pv : Value, .agg #[] = pv := ⟨_, rfl⟩
  obtain ⟨older, hol⟩ : ∃ older : List PanicEntry, [] = older := ⟨_, rfl⟩
  have hu2 : c₀.mode = .panicking ({ v := .iface ty pv, recovered := false } :: older) := by rw [← hty, ← hpv, ← hol]; exact hu3
  have n0 := hn.at_ 0 _ rfl
  have n1 := hn.at_ 1 _ rfl
  have n2 := hn.at_ 2 _ rfl
  have n3 := hn.at_ 3 _ rfl
  have n4 := hn.at_ 4 _ rfl
  have e0 := he.at_ 0 _ rfl
  have ef := he.fr 0
  have o0 := ho.fr 0
  have o1 := ho.fr 1
  have o2 := ho.fr 2
  have o3 := ho.fr 3
  have o4 := ho.fr 4
  obtain ⟨z0, z1, z2, z3, z4, rfl⟩ : ∃ z0 z1 z2 z3 z4, cs0 = [z0, z1, z2, z3, z4] := by
    match cs0, hl with
    | [z0, z1, z2, z3, z4], _ => exact ⟨z0, z1, z2, z3, z4, rfl⟩
  have q0 := ho.at_ 0 _ rfl
  have q1 := ho.at_ 1 _ rfl
  have q2 := ho.at_ 2 _ rfl
  have q3 := ho.at_ 3 _ rfl
  have q4 := ho.at_ 4 _ rfl
  have l1 := hn.lt
  have l2 := ho.lt
  have l3 := he.lt
  clear hn ho he hu hu3
  apply wpS_seq
  apply wpS_region
  simp [wpOpsS, go_sem, recoverD, hu2, Tryd.ntmps55, Exit.thenS]
  subst hty hpv hol
  have k1 := short_asserted
  have k2 := short_not_nil
  refine wpS_of_wp ?_
  go_wp2_with fail
  cases c₀
  simp_all [bodyPostS, results, Tryd.results55]

theorem catchE_idle (nb ob eb : Nat) (w : World) :
    CallsD Tryd.prog 44 #[.pointer (some ⟨nb, 0, none⟩), .pointer (some ⟨ob, 0, none⟩), .pointer (some ⟨eb, 0, none⟩)] .returning w fun e u' w' => e = .returned (.tuple #[]) ∧ u' = .returning ∧ w' = w := by
  refine callsD_of_wpS Tryd.func44 rfl fun c₀ cs hu => ?_
  apply wpS_seq
  apply wpS_region
  simp [wpOpsS, go_sem, recoverD, hu, Tryd.ntmps44, Exit.thenS]
  refine wpS_of_wp ?_
  go_wp2_with fail
  cases c₀
  simp_all [bodyPostS, results, Tryd.results44]
set_option maxHeartbeats 2000000 in
set_option maxRecDepth 100000 in
theorem catchE_short (nb ob eb : Nat) (w : World) (hn : BC w nb [.int .u8 0, .int .u32 0, .int .u32 0, .int .u8 0, .int .i64 0, .string { data := #[] }, .slice none 0 0, .slice none 0 0, .slice none 0 0]) (cs0 : List Value) (ho : BC w ob cs0) (hl : cs0.length = 9) (x0 : Value) (he : BC w eb [x0]) (h2 : ob ≠ eb) (h3 : eb ≠ nb) :
    CallsD Tryd.prog 44 #[.pointer (some ⟨nb, 0, none⟩), .pointer (some ⟨ob, 0, none⟩), .pointer (some ⟨eb, 0, none⟩)] (.panicking [short]) w fun e u' w' => e = .returned (.tuple #[]) ∧ u' = .panicking [{ v := .iface 95 (.agg #[]), recovered := true }] ∧ w' = (((((((((((w.setCell ⟨ob, 0, none⟩ (.int .u8 0)).setCell ⟨ob, 1, none⟩ (.int .u32 0)).setCell ⟨ob, 2, none⟩ (.int .u32 0)).setCell ⟨ob, 3, none⟩ (.int .u8 0)).setCell ⟨ob, 4, none⟩ (.int .i64 0)).setCell ⟨ob, 5, none⟩ (.string { data := #[] })).setCell ⟨ob, 6, none⟩ (.slice none 0 0)).setCell ⟨ob, 7, none⟩ (.slice none 0 0)).setCell ⟨ob, 8, none⟩ (.slice none 0 0)).setCell ⟨eb, 0, none⟩ (.int .u16 100)).alloc (.cells #[] 95)) := by
  refine callsD_of_wpS Tryd.func44 rfl fun c₀ cs hu => ?_
  have hu3 : c₀.mode = .panicking [{ v := .iface 95 (.agg #[]), recovered := false }] := hu
  obtain ⟨ty, hty⟩ : ∃ ty : TypeId, 95 = ty := ⟨_, rfl⟩
  obtain ⟨pv, hpv⟩ : ∃ pv : Value, .agg #[] = pv := ⟨_, rfl⟩
  obtain ⟨older, hol⟩ : ∃ older : List PanicEntry, [] = older := ⟨_, rfl⟩
  have hu2 : c₀.mode = .panicking ({ v := .iface ty pv, recovered := false } :: older) := by rw [← hty, ← hpv, ← hol]; exact hu3
  have n0 := hn.at_ 0 _ rfl
  have n1 := hn.at_ 1 _ rfl
  have n2 := hn.at_ 2 _ rfl
  have n3 := hn.at_ 3 _ rfl
  have n4 := hn.at_ 4 _ rfl
  have n5 := hn.at_ 5 _ rfl
  have n6 := hn.at_ 6 _ rfl
  have n7 := hn.at_ 7 _ rfl
  have n8 := hn.at_ 8 _ rfl
  have e0 := he.at_ 0 _ rfl
  have ef := he.fr 0
  have o0 := ho.fr 0
  have o1 := ho.fr 1
  have o2 := ho.fr 2
  have o3 := ho.fr 3
  have o4 := ho.fr 4
  have o5 := ho.fr 5
  have o6 := ho.fr 6
  have o7 := ho.fr 7
  have o8 := ho.fr 8
  obtain ⟨z0, z1, z2, z3, z4, z5, z6, z7, z8, rfl⟩ : ∃ z0 z1 z2 z3 z4 z5 z6 z7 z8, cs0 = [z0, z1, z2, z3, z4, z5, z6, z7, z8] := by
    match cs0, hl with
    | [z0, z1, z2, z3, z4, z5, z6, z7, z8], _ => exact ⟨z0, z1, z2, z3, z4, z5, z6, z7, z8, rfl⟩
  have q0 := ho.at_ 0 _ rfl
  have q1 := ho.at_ 1 _ rfl
  have q2 := ho.at_ 2 _ rfl
  have q3 := ho.at_ 3 _ rfl
  have q4 := ho.at_ 4 _ rfl
  have q5 := ho.at_ 5 _ rfl
  have q6 := ho.at_ 6 _ rfl
  have q7 := ho.at_ 7 _ rfl
  have q8 := ho.at_ 8 _ rfl
  have l1 := hn.lt
  have l2 := ho.lt
  have l3 := he.lt
  clear hn ho he hu hu3
  apply wpS_seq
  apply wpS_region
  simp [wpOpsS, go_sem, recoverD, hu2, Tryd.ntmps44, Exit.thenS]
  subst hty hpv hol
  have k1 := short_asserted
  have k2 := short_not_nil
  refine wpS_of_wp ?_
  go_wp2_with fail
  cases c₀
  simp_all [bodyPostS, results, Tryd.results44]
end Go.Proofs.YtcfbnmobfcabiaaDoor
namespace Go.Proofs.YtcfbnmobfcabiaaDoor
open Go.RowKit

def ezero : EC := ⟨0, 0, 0, vzero, none, 0, 0⟩
def ecells (c : EC) : List Value := [.int .u8 c.k, .int .u32 c.src, .int .u32 c.seq, .int .u8 c.v.k, .int .i64 c.v.n, .string c.v.s, .slice c.v.la c.v.ll c.v.lc, .slice c.v.oa c.v.ol c.v.oc, .slice c.oa c.ol c.oc]
def PC (l : List Cm) (cs : List CC) : World → Nat → Nat → Prop := fun W B i => ∀ h : i < l.length, IsComp W B l[i] (cs.getD i czero)
theorem PC.closed (l : List Cm) (cs : List CC) : Closed (PC l cs) := fun _ _ _ _ _ hs hB h hi => ((h hi).sub hs).more hB
theorem PC.snoc {l : List Cm} {cs : List CC} (hl : cs.length = l.length) (x : Cm) (c : CC) : (∀ W B, IsComp W B x c → PC (l ++ [x]) (cs ++ [c]) W B l.length) ∧ ∀ W B i, i < l.length → PC l cs W B i → PC (l ++ [x]) (cs ++ [c]) W B i := by
  constructor
  · intro W B h hi
    simpa [List.getD_eq_getElem?_getD, ← hl] using h
  · intro W B i hi h hi2
    have h := h hi
    have e : (cs ++ [c]).getD i czero = cs.getD i czero := by simp [List.getD_eq_getElem?_getD, List.getElem?_append_left (show i < cs.length by omega)]
    rw [List.getElem_append_left hi, e]
    exact h
abbrev RowC (w : World) (base : Nat) (u : Value) (l : List Cm) (cs : List CC) : Prop := Row 70 12 w base u l.length (cs.flatMap ccells) (PC l cs)
theorem RowC.comps {w : World} {base lo : Nat} {l : List Cm} {cs : List CC} {a : Option Addr} {n cap : Nat} (h : RowC w base (.slice a n cap) l cs) (hl : cs.length = l.length) (hlo : lo ≤ base) (hfew : l.length ≤ 1466015503701) :
    IsComps (only (fun b => lo ≤ b) w) w.heap.size l a n cap := by
  obtain ⟨h1, h2⟩ := Row.shows (PC.closed l cs) h hlo
  have hown := h.own
  have hlt := h.lt
  rcases hown.2 with ⟨e, hn⟩ | ⟨g, cap', cur, e, hbg, hg, hnc, hcm, hcs, htake⟩
  · injection e with e1 e2 e3; subst e1 e2 e3
    have : l = [] := List.length_eq_zero_iff.1 hn
    subst this
    exact .nil _ _
  · injection e with e1 e2 e3; subst e1 e2 e3
    refine ⟨rfl, hnc, by simpa [maxLen] using hcm, hfew, g, 0, fun i => cs.getD i czero, fun _ => ⟨rfl, (hlt g rfl).2⟩, fun i hi => ⟨?_, h2 i hi hi⟩⟩
    have hi' : i < cs.length := by omega
    have hc : ∀ t x, t < 12 → (ccells cs[i])[t]? = some x → (only (fun b => lo ≤ b) w).cell? ⟨g, 0 + i * 12 + t, none⟩ = some x := fun t x ht hx => by
      rw [Nat.zero_add]
      exact h1 g rfl (i * 12 + t) x ((flat_get ccells 12 (fun _ => rfl) cs i t hi' ht).trans hx)
    have he : cs.getD i czero = cs[i] := by simp [List.getD_eq_getElem?_getD, hi']
    simp only [he]
    exact ⟨hc 0 _ (by omega) rfl, hc 1 _ (by omega) rfl, hc 2 _ (by omega) rfl, hc 3 _ (by omega) rfl, hc 4 _ (by omega) rfl, hc 5 _ (by omega) rfl, ⟨hc 6 _ (by omega) rfl, hc 7 _ (by omega) rfl, hc 8 _ (by omega) rfl, hc 9 _ (by omega) rfl, hc 10 _ (by omega) rfl⟩, hc 11 _ (by omega) rfl⟩

/-- At the head of a round of the operation's loop. -/
structure LE (w wr : World) (rb eb : Nat) (kd sr sq : Nat) (q : List UInt8) (j : Nat) (a : Option Addr) (m c : Nat) (xs : List Cm) (cs : List CC) (rj : List UInt8) : Prop where
  rd : rdL (fun x => rdC x) j q = some (xs, rj)
  len : xs.length = j
  cen : cs.length = j
  rdr : Rdr wr rb rj 0
  st : RStep w wr rb
  res : BC wr w.heap.size (ecells ezero)
  box : BC wr eb (ecells ⟨kd, sr, sq, vzero, a, m, c⟩)
  row : RowC wr (eb + 1) (.slice a m c) xs cs
  lo : w.heap.size + 1 ≤ eb
  lt : rb < w.heap.size
theorem LE.round {w wr w4 w5 : World} {rb eb kd sr sq : Nat} {q : List UInt8} {j : Nat} {a : Option Addr} {m c : Nat} {xs : List Cm} {cs : List CC} {rj r2 : List UInt8} {x : Cm} {cx : CC} {g cap : Nat} {t : TypeId}
    (h : LE w wr rb eb kd sr sq q j a m c xs cs rj) (hx : rdC rj = some (x, r2)) (hS : RStep wr.drew w4 rb) (hI : IsComp (only (fun b => wr.drew.heap.size ≤ b) w4) w4.heap.size x cx) (hR : Rdr w4 rb r2 0)
    (hown : w5.ownsRow (eb + 1) 70 12 (.slice (some ⟨g, 0, none⟩) (j + 1) cap) (j + 1) (cs.flatMap ccells ++ ccells cx)) (hg : (w4.alloc (.cells #[.int .u8 cx.k, .slice cx.pa cx.pl cx.pc, .string cx.key, .int .i64 cx.i, .int .i64 cx.j, .int .i64 cx.n, .int .u8 cx.v.k, .int .i64 cx.v.n, .string cx.v.s, .slice cx.v.la cx.v.ll cx.v.lc, .slice cx.v.oa cx.v.ol cx.v.oc, .string cx.s] t)).grownBy w5 (Value.slice a m c).ownBlock)
    (hat : (Value.slice a m c).ownBlock = some g ∨ g = w4.heap.size + 1) :
    LE w (w5.setCell ⟨eb, 8, none⟩ (.slice (some ⟨g, 0, none⟩) (j + 1) cap)) rb eb kd sr sq q (j + 1) (some ⟨g, 0, none⟩) (j + 1) cap (xs ++ [x]) (cs ++ [cx]) r2 := by
  have hlo := h.lo
  have hlt := h.lt
  have hdz : wr.drew.heap.size = wr.heap.size := rfl
  have hb1 := drew_below wr
  have hrow := (h.row.later (PC.closed xs cs) (.of_below rb hb1) (by omega)).later (PC.closed xs cs) hS (by omega)
  have hrlt : ∀ b, (Value.slice a m c).ownBlock = some b → eb + 1 ≤ b ∧ b < wr.heap.size := h.row.lt
  have hba : Below w4.heap.size w4 (w4.alloc (.cells #[.int .u8 cx.k, .slice cx.pa cx.pl cx.pc, .string cx.key, .int .i64 cx.i, .int .i64 cx.j, .int .i64 cx.n, .int .u8 cx.v.k, .int .i64 cx.v.n, .string cx.v.s, .slice cx.v.la cx.v.ll cx.v.lc, .slice cx.v.oa cx.v.ol cx.v.oc, .string cx.s] t)) := (Below.refl _ _).alloc (Nat.le_refl _) _
  have hsz4 : wr.heap.size ≤ w4.heap.size := hS.size
  have hclt := h.box.lt
  have hgb : Below (eb + 1) (w4.alloc (.cells #[.int .u8 cx.k, .slice cx.pa cx.pl cx.pc, .string cx.key, .int .i64 cx.i, .int .i64 cx.j, .int .i64 cx.n, .int .u8 cx.v.k, .int .i64 cx.v.n, .string cx.v.s, .slice cx.v.la cx.v.ll cx.v.lc, .slice cx.v.oa cx.v.ol cx.v.oc, .string cx.s] t)) w5 := grown_below hg (fun b hb => (hrlt b hb).1) (by simp; omega)
  have hb45 : Below (eb + 1) w4 w5 := (hba.mono (by omega)).trans hgb
  obtain ⟨s1, s2⟩ := PC.snoc (l := xs) (cs := cs) (by rw [h.len, h.cen]) x cx
  have hnew : PC (xs ++ [x]) (cs ++ [cx]) (only (Free (eb + 1) (.slice a m c)) w4) w4.heap.size xs.length := s1 _ _ (hI.sub (shows_step fun b hb _ => ⟨⟨by rw [hdz] at hb; omega, fun e => by have := (hrlt b e.symm).2; rw [hdz] at hb; omega⟩, rfl⟩))
  have hpush := Row.push (PC.closed (xs ++ [x]) (cs ++ [cx])) hrow hba hg (u' := .slice (some ⟨g, 0, none⟩) (j + 1) cap) (news := ccells cx) (by rw [h.len]; exact hown) (by
    rcases hat with e | e
    · left; rw [e]; rfl
    · right; intro b hb; have : g = b := by simpa [Value.ownBlock] using hb
      omega) hnew s2
  have hres := ((h.res.keep hb1 (by omega)).next hS (by omega)).keep hb45 (by omega)
  have hbox := ((h.box.keep hb1 hclt).next hS (by omega)).keep hb45 (by omega)
  have hst : RStep w w5 rb := by
    have h1 : RStep w w4 rb := (h.st.trans (.of_below rb hb1)).trans hS
    exact ⟨hb45.os.trans h1.os, hb45.tape.trans h1.tape, hb45.output.trans h1.output, Nat.le_trans h1.size hb45.size, fun k hk hr => (hb45.block k (by omega)).trans (h1.block k hk hr)⟩
  refine ⟨?_, by simp [h.len], by simp [h.cen], (hR.below hb45 (by omega)).setNew (by omega), hst.setNew (by omega), hres.far (by omega), hbox.set (i := 8) (x := .slice (some ⟨g, 0, none⟩) (j + 1) cap) (by simp [ecells]), ?_, hlo, hlt⟩
  · rw [rdL, h.rd]; simp only [Option.bind_some, hx]
  · have hr2 : RowC w5 (eb + 1) (.slice (some ⟨g, 0, none⟩) (j + 1) cap) (xs ++ [x]) (cs ++ [cx]) := by
      show Row _ _ _ _ _ _ _ _
      rw [flat_snoc, List.length_append, List.length_singleton]
      exact hpush
    exact hr2.set (PC.closed _ _) (by omega)

/-- What reader.entry comes to. -/
def REPost (w : World) (rb : Nat) (r : Option (En × List UInt8)) (e : Ending) (w' : World) : Prop :=
  RStep w w' rb ∧ match r with
    | some (x, r) => (∃ c : EC, e = .returned (.agg #[.int .u8 c.k, .int .u32 c.src, .int .u32 c.seq, .int .u8 c.v.k, .int .i64 c.v.n, .string c.v.s, .slice c.v.la c.v.ll c.v.lc, .slice c.v.oa c.v.ol c.v.oc, .slice c.oa c.ol c.oc]) ∧ IsEntry (only (fun b => w.heap.size ≤ b) w') w'.heap.size x c) ∧ Rdr w' rb r 0
    | none => e = .panicked [short] ∧ ∃ bs', Rdr w' rb bs' 0
/-- The entry is read. -/
structure EB (w W : World) (rb eb : Nat) (r : List UInt8) (v : V) (l : List Cm) (c : EC) : Prop where
  rdr : Rdr W rb r 0
  st : RStep w W rb
  res : BC W w.heap.size (ecells ezero)
  box : BC W eb (ecells c)
  val : IsVal (only (fun b => eb + 1 ≤ b) W) W.heap.size v c.v
  ops : IsComps (only (fun b => eb + 1 ≤ b) W) W.heap.size l c.oa c.ol c.oc
  lo : w.heap.size + 1 ≤ eb
  lt : rb < w.heap.size
theorem isComps_far {W W' : World} {b base : Nat} {l : List Cm} {a : Option Addr} {n c : Nat} (h : IsComps (only (fun k => base ≤ k) W) W.heap.size l a n c) (s : RStep W W' b) (hb : b < base) : IsComps (only (fun k => base ≤ k) W') W'.heap.size l a n c :=
  (h.sub (shows_step fun k hk hl => ⟨hk, s.block k hl (by omega)⟩)).more s.size
theorem results_entry {tmps : Array Value} {W : World} {b : Nat} {c : EC} (ht : tmps[2]? = some (.pointer (some ⟨b, 0, none⟩))) (h : BC W b (ecells c)) : (results Tryd.f21 tmps).run Tryd.prog W = .ok (.agg #[.int .u8 c.k, .int .u32 c.src, .int .u32 c.seq, .int .u8 c.v.k, .int .i64 c.v.n, .string c.v.s, .slice c.v.la c.v.ll c.v.lc, .slice c.v.oa c.v.ol c.v.oc, .slice c.oa c.ol c.oc]) W := by
  have h0 := h.at_ 0 _ rfl
  have h1 := h.at_ 1 _ rfl
  have h2 := h.at_ 2 _ rfl
  have h3 := h.at_ 3 _ rfl
  have h4 := h.at_ 4 _ rfl
  have h5 := h.at_ 5 _ rfl
  have h6 := h.at_ 6 _ rfl
  have h7 := h.at_ 7 _ rfl
  have h8 := h.at_ 8 _ rfl
  simp [results, Tryd.results21, go_sem, ht, h0, h1, h2, h3, h4, h5, h6, h7, h8]
theorem EB.leave {w W : World} {rb eb : Nat} {r : List UInt8} {v : V} {l : List Cm} {c : EC} {x : En} {a : Act} (h : EB w W rb eb r v l c) (hb : c.Bnd) (hx : x = ⟨c.k, c.src, c.seq, v, l⟩) (hd : a.defers = []) (ht : a.tmps[2]? = some (.pointer (some ⟨w.heap.size, 0, none⟩))) :
    bodyPost Tryd.prog Tryd.f21 (REPost w rb (some (x, r))) .ret a (((((((((W.setCell ⟨w.heap.size, 0, none⟩ (.int .u8 c.k)).setCell ⟨w.heap.size, 1, none⟩ (.int .u32 c.src)).setCell ⟨w.heap.size, 2, none⟩ (.int .u32 c.seq)).setCell ⟨w.heap.size, 3, none⟩ (.int .u8 c.v.k)).setCell ⟨w.heap.size, 4, none⟩ (.int .i64 c.v.n)).setCell ⟨w.heap.size, 5, none⟩ (.string c.v.s)).setCell ⟨w.heap.size, 6, none⟩ (.slice c.v.la c.v.ll c.v.lc)).setCell ⟨w.heap.size, 7, none⟩ (.slice c.v.oa c.v.ol c.v.oc)).setCell ⟨w.heap.size, 8, none⟩ (.slice c.oa c.ol c.oc)) := by
  have hlo := h.lo; have hlt := h.lt
  have hs : RStep W (((((((((W.setCell ⟨w.heap.size, 0, none⟩ (.int .u8 c.k)).setCell ⟨w.heap.size, 1, none⟩ (.int .u32 c.src)).setCell ⟨w.heap.size, 2, none⟩ (.int .u32 c.seq)).setCell ⟨w.heap.size, 3, none⟩ (.int .u8 c.v.k)).setCell ⟨w.heap.size, 4, none⟩ (.int .i64 c.v.n)).setCell ⟨w.heap.size, 5, none⟩ (.string c.v.s)).setCell ⟨w.heap.size, 6, none⟩ (.slice c.v.la c.v.ll c.v.lc)).setCell ⟨w.heap.size, 7, none⟩ (.slice c.v.oa c.v.ol c.v.oc)).setCell ⟨w.heap.size, 8, none⟩ (.slice c.oa c.ol c.oc)) w.heap.size := ((((((((RStep.self.trans RStep.self).trans RStep.self).trans RStep.self).trans RStep.self).trans RStep.self).trans RStep.self).trans RStep.self).trans RStep.self)
  have hbc : BC (((((((((W.setCell ⟨w.heap.size, 0, none⟩ (.int .u8 c.k)).setCell ⟨w.heap.size, 1, none⟩ (.int .u32 c.src)).setCell ⟨w.heap.size, 2, none⟩ (.int .u32 c.seq)).setCell ⟨w.heap.size, 3, none⟩ (.int .u8 c.v.k)).setCell ⟨w.heap.size, 4, none⟩ (.int .i64 c.v.n)).setCell ⟨w.heap.size, 5, none⟩ (.string c.v.s)).setCell ⟨w.heap.size, 6, none⟩ (.slice c.v.la c.v.ll c.v.lc)).setCell ⟨w.heap.size, 7, none⟩ (.slice c.v.oa c.v.ol c.v.oc)).setCell ⟨w.heap.size, 8, none⟩ (.slice c.oa c.ol c.oc)) w.heap.size (ecells c) := (((((((((h.res.set (i := 0) (x := .int .u8 c.k) (by simp [ecells])).set (i := 1) (x := .int .u32 c.src) (by simp [ecells])).set (i := 2) (x := .int .u32 c.seq) (by simp [ecells])).set (i := 3) (x := .int .u8 c.v.k) (by simp [ecells])).set (i := 4) (x := .int .i64 c.v.n) (by simp [ecells])).set (i := 5) (x := .string c.v.s) (by simp [ecells])).set (i := 6) (x := .slice c.v.la c.v.ll c.v.lc) (by simp [ecells])).set (i := 7) (x := .slice c.v.oa c.v.ol c.v.oc) (by simp [ecells])).set (i := 8) (x := .slice c.oa c.ol c.oc) (by simp [ecells]))
  have hst : RStep w (((((((((W.setCell ⟨w.heap.size, 0, none⟩ (.int .u8 c.k)).setCell ⟨w.heap.size, 1, none⟩ (.int .u32 c.src)).setCell ⟨w.heap.size, 2, none⟩ (.int .u32 c.seq)).setCell ⟨w.heap.size, 3, none⟩ (.int .u8 c.v.k)).setCell ⟨w.heap.size, 4, none⟩ (.int .i64 c.v.n)).setCell ⟨w.heap.size, 5, none⟩ (.string c.v.s)).setCell ⟨w.heap.size, 6, none⟩ (.slice c.v.la c.v.ll c.v.lc)).setCell ⟨w.heap.size, 7, none⟩ (.slice c.v.oa c.v.ol c.v.oc)).setCell ⟨w.heap.size, 8, none⟩ (.slice c.oa c.ol c.oc)) rb := ⟨hs.os.trans h.st.os, hs.tape.trans h.st.tape, hs.output.trans h.st.output, Nat.le_trans h.st.size hs.size, fun k hk hr => (hs.block k (Nat.lt_of_lt_of_le hk h.st.size) (by omega)).trans (h.st.block k hk hr)⟩
  have hops := isComps_far h.ops hs (by omega)
  have hval := isVal_far h.val hs (by omega)
  refine ⟨hd, _, results_entry ht hbc, hst, ⟨c, rfl, ?_⟩, h.rdr.below (hs.below (by have := h.res.lt; omega)) hlt⟩
  subst hx
  exact .mk c v l hb (hval.sub (shows_step fun k hk _ => ⟨by omega, rfl⟩)) (hops.sub (shows_step fun k hk _ => ⟨by omega, rfl⟩))
theorem LE.eb {w wr : World} {rb eb kd sr sq : Nat} {q : List UInt8} {j : Nat} {a : Option Addr} {m c : Nat} {xs : List Cm} {cs : List CC} {rj : List UInt8} (h : LE w wr rb eb kd sr sq q j a m c xs cs rj) (hfew : j ≤ 1466015503701) : EB w wr rb eb rj V.none xs ⟨kd, sr, sq, vzero, a, m, c⟩ :=
  ⟨h.rdr, h.st, h.res, h.box, isVal_none _ _, h.row.comps (by rw [h.len, h.cen]) (Nat.le_refl _) (by rw [h.len]; exact hfew), h.lo, h.lt⟩
end Go.Proofs.YtcfbnmobfcabiaaDoor
namespace Go.Proofs.YtcfbnmobfcabiaaDoor
open Go.RowKit
theorem RStep.src {W W' : World} {rb : Nat} (_ : RStep W W' rb) : W = W := rfl
def vz : List Value := [.int .u8 0, .int .i64 0, .string { data := #[] }, .slice none 0 0, .slice none 0 0]
def ez : List Value := [.int .u8 0, .int .u32 0, .int .u32 0, .int .u8 0, .int .i64 0, .string { data := #[] }, .slice none 0 0, .slice none 0 0, .slice none 0 0]
def En.none : En := ⟨0, 0, 0, V.none, []⟩
theorem isEntry_none (w : World) (B : Nat) : IsEntry w B En.none ezero :=
  .mk ezero V.none [] ⟨by decide, by decide, by decide, by decide, by decide, by decide⟩ (isVal_none _ _) (IsComps.nil _ _)
theorem isEntry_far {W W' : World} {b base : Nat} {x : En} {c : EC} (h : IsEntry (only (fun k => base ≤ k) W) W.heap.size x c) (s : RStep W W' b) (hb : b < base) : IsEntry (only (fun k => base ≤ k) W') W'.heap.size x c :=
  (h.sub (shows_step fun k hk hl => ⟨hk, s.block k hl (by omega)⟩)).more s.size
/-- whole's own blocks: out, err, none; the reader's. -/
structure WH (w W : World) (z cs : List Value) (x : Value) : Prop where
  out : BC W w.heap.size cs
  err : BC W (w.heap.size + 1) [x]
  non : BC W (w.heap.size + 2) z
  below : Below w.heap.size w W
theorem WH.start (w : World) (z : List Value) (bs : List UInt8) (a : Option Addr) (n c : Nat) (h : IsB w w.heap.size a n c bs) (t1 t2 t3 t4 : TypeId) (W : World) (hW : W = (((w.alloc (.cells z.toArray t1)).alloc (.cells #[.int .u16 0] t2)).alloc (.cells z.toArray t3)).alloc (.cells #[.slice a n c, .int .i64 0] t4)) :
    WH w W z z (.int .u16 0) ∧ Rdr W (w.heap.size + 3) bs 0 ∧ W.heap.size = w.heap.size + 4 := by
  obtain ⟨w1, hw1⟩ : ∃ w1, w.alloc (.cells z.toArray t1) = w1 := ⟨_, rfl⟩
  have s1 : w1.heap.size = w.heap.size + 1 := by rw [← hw1, World.size_alloc]
  have b1 : Below w.heap.size w w1 := by rw [← hw1]; exact (Below.refl _ _).alloc (Nat.le_refl _) _
  have c1 : BC w1 w.heap.size z := by rw [← hw1]; exact BC.start w z.toArray t1
  rw [hw1] at hW
  obtain ⟨w2, hw2⟩ : ∃ w2, w1.alloc (.cells #[.int .u16 0] t2) = w2 := ⟨_, rfl⟩
  have s2 : w2.heap.size = w.heap.size + 2 := by rw [← hw2, World.size_alloc, s1]
  have b2 : Below w1.heap.size w1 w2 := by rw [← hw2]; exact (Below.refl _ _).alloc (Nat.le_refl _) _
  have c2 : BC w2 (w.heap.size + 1) [.int .u16 0] := by rw [← hw2, ← s1]; exact BC.start w1 #[.int .u16 0] t2
  rw [hw2] at hW
  obtain ⟨w3, hw3⟩ : ∃ w3, w2.alloc (.cells z.toArray t3) = w3 := ⟨_, rfl⟩
  have s3 : w3.heap.size = w.heap.size + 3 := by rw [← hw3, World.size_alloc, s2]
  have b3 : Below w2.heap.size w2 w3 := by rw [← hw3]; exact (Below.refl _ _).alloc (Nat.le_refl _) _
  have c3 : BC w3 (w.heap.size + 2) z := by rw [← hw3, ← s2]; exact BC.start w2 z.toArray t3
  rw [hw3] at hW
  subst hW
  have b4 : Below w3.heap.size w3 (w3.alloc (.cells #[.slice a n c, .int .i64 0] t4)) := (Below.refl _ _).alloc (Nat.le_refl _) _
  have hB : Below w.heap.size w (w3.alloc (.cells #[.slice a n c, .int .i64 0] t4)) := ((b1.trans (b2.mono (by omega))).trans (b3.mono (by omega))).trans (b4.mono (by omega))
  refine ⟨⟨((c1.keep b2 (by omega)).keep b3 (by omega)).keep b4 (by omega), (c2.keep b3 (by omega)).keep b4 (by omega), c3.keep b4 (by omega), hB⟩, ⟨⟨a, n, c, ?_, (h.keep hB).more (by omega)⟩, ?_, ?_, ?_⟩, by rw [World.size_alloc, s3]⟩
  · rw [← s3]; exact cells_new w3 _ t4 0 _ rfl
  · rw [← s3]; exact cells_new w3 _ t4 1 _ rfl
  · rw [← s3]; exact frozen_new w3 _ t4 0
  · rw [← s3]; exact frozen_new w3 _ t4 1
theorem WH.next {w W W' : World} {z cs : List Value} {x : Value} (h : WH w W z cs x) (hb : Below W.heap.size W W') : WH w W' z cs x :=
  ⟨h.out.keep hb h.out.lt, h.err.keep hb h.err.lt, h.non.keep hb h.non.lt, h.below.trans (hb.mono (Nat.le_of_lt h.out.lt))⟩
theorem WH.read {w W W' : World} {z cs : List Value} {x : Value} (h : WH w W z cs x) (hs : RStep W W' (w.heap.size + 3)) (hz : w.heap.size + 4 ≤ W.heap.size) : WH w W' z cs x :=
  ⟨h.out.next hs (by omega), h.err.next hs (by omega), h.non.next hs (by omega), h.below.trans ((hs.below (by omega)).mono (by omega))⟩
theorem WH.setErr {w W : World} {z cs : List Value} {x y : Value} (h : WH w W z cs x) : WH w (W.setCell ⟨w.heap.size + 1, 0, none⟩ y) z cs y := by
  have s1 : RStep W (W.setCell ⟨w.heap.size + 1, 0, none⟩ y) (w.heap.size + 1) := RStep.self
  have hlt := h.err.lt
  exact ⟨h.out.far (by omega), h.err.set (i := 0) (x := y) (by simp), h.non.far (by omega), h.below.trans ((s1.below (by omega)).mono (by omega))⟩
end Go.Proofs.YtcfbnmobfcabiaaDoor
namespace Go.Proofs.YtcfbnmobfcabiaaDoor
open Go.RowKit
theorem rValue_any (k : Nat) : ∀ (w : World) (rb : Nat) (bs : List UInt8) (d : Int), Rdr w rb bs d → 0 ≤ d → d + k = 18 → Calls Tryd.prog 28 #[.pointer (some ⟨rb, 0, none⟩)] w (RVPost w rb d (rdV k bs)) := by
  induction k with
  | zero => intro w rb bs d h h0 hk; exact rv_deep w rb bs d h (by omega)
  | succ k ih =>
    intro w rb bs d h h0 hk
    have hd : d ≤ 17 := by omega
    cases hr : rdN 1 bs with
    | none =>
      have e : rdV (k + 1) bs = none := by rw [rdV, hr]; rfl
      rw [e]; exact rv_none w rb bs d h h0 hd hr
    | some p =>
      obtain ⟨kd, r⟩ := p
      by_cases e12 : kd = 1 ∨ kd = 2
      · cases h2 : rdN 8 r with
        | none =>
          have e : rdV (k + 1) bs = none := by rw [rdV, hr]; simp only [Option.bind_some, if_pos e12, h2]; rfl
          rw [e]
          rcases e12 with e1 | e1
          · exact rv_int1_none w rb bs d h h0 hd hr e1 h2
          · exact rv_int2_none w rb bs d h h0 hd hr e1 h2
        | some q =>
          obtain ⟨n, r2⟩ := q
          have e : rdV (k + 1) bs = some (.mk kd (wrap64 n) .empty [] [], r2) := by rw [rdV, hr]; simp only [Option.bind_some, if_pos e12, h2]
          rw [e]
          rcases e12 with e1 | e1
          · exact rv_int1_some w rb bs d h h0 hd hr e1 h2
          · exact rv_int2_some w rb bs d h h0 hd hr e1 h2
      by_cases e3 : kd = 3
      · cases h2 : rdT r with
        | none =>
          have e : rdV (k + 1) bs = none := by rw [rdV, hr]; simp only [Option.bind_some, if_neg e12, if_pos e3, h2]; rfl
          rw [e]; exact rv_text_none w rb bs d h h0 hd hr e3 h2
        | some q =>
          obtain ⟨s, r2⟩ := q
          have e : rdV (k + 1) bs = some (.mk kd 0 s [] [], r2) := by rw [rdV, hr]; simp only [Option.bind_some, if_neg e12, if_pos e3, h2]
          rw [e]; exact rv_text_some w rb bs d h h0 hd hr e3 h2
      by_cases e4 : kd = 4
      · cases h2 : rdM 4 r with
        | none =>
          have e : rdV (k + 1) bs = none := by rw [rdV, hr]; simp only [Option.bind_some, if_neg e12, if_neg e3, if_pos e4, h2]; rfl
          rw [e]; exact rv_list_none w rb bs d h h0 hd hr e4 h2
        | some q =>
          obtain ⟨n, q⟩ := q
          have e : rdV (k + 1) bs = (rdL (fun x => rdV k x) n q).bind fun p => some (.mk kd 0 .empty p.1 [], p.2) := by rw [rdV, hr]; simp only [Option.bind_some, if_neg e12, if_neg e3, if_pos e4, h2]
          rw [e]; exact rv_list_any w rb bs d h h0 hd hr e4 h2 k (fun W bs hR => ih W rb bs (d + 1) hR (by omega) (by omega)) rfl
      by_cases e5 : kd = 5
      · cases h2 : rdM 4 r with
        | none =>
          have e : rdV (k + 1) bs = none := by rw [rdV, hr]; simp only [Option.bind_some, if_neg e12, if_neg e3, if_neg e4, if_pos e5, h2]; rfl
          rw [e]; exact rv_obj_none w rb bs d h h0 hd hr e5 h2
        | some q =>
          obtain ⟨n, q⟩ := q
          have e : rdV (k + 1) bs = (rdL (fun x => (rdT x).bind fun y => (rdV k y.2).bind fun z => some ((y.1, z.1), z.2)) n q).bind fun p => some (.mk kd 0 .empty [] p.1, p.2) := by rw [rdV, hr]; simp only [Option.bind_some, if_neg e12, if_neg e3, if_neg e4, if_pos e5, h2]
          rw [e]; exact rv_obj_any w rb bs d h h0 hd hr e5 h2 k (fun W bs hR => ih W rb bs (d + 1) hR (by omega) (by omega)) rfl
      · have e : rdV (k + 1) bs = some (.mk kd 0 .empty [] [], r) := by rw [rdV, hr]; simp only [Option.bind_some, if_neg e12, if_neg e3, if_neg e4, if_neg e5]
        rw [e]; exact rv_other w rb bs d h h0 hd hr (by omega)
end Go.Proofs.YtcfbnmobfcabiaaDoor
namespace Go.Proofs.YtcfbnmobfcabiaaDoor
open Go.RowKit
theorem rw_none (w : World) (rb : Nat) (bs : List UInt8) (h : Rdr w rb bs 0) (hr : rdV 18 bs = none) :
    Calls Tryd.prog 28 #[.pointer (some ⟨rb, 0, none⟩)] w fun e w' => e = .panicked [short] ∧ RStep w w' rb ∧ ∃ bs', Rdr w' rb bs' 0 := by
  have := rValue_any 18 w rb bs 0 h (by omega) (by omega)
  rw [hr] at this
  exact this.mono fun e w' ⟨h1, h2, h3⟩ => ⟨h2, h1, h3⟩
theorem rw_some (w : World) (rb : Nat) (bs : List UInt8) (h : Rdr w rb bs 0) {x : V} {r : List UInt8} (hr : rdV 18 bs = some (x, r)) :
    Calls Tryd.prog 28 #[.pointer (some ⟨rb, 0, none⟩)] w fun e w' => ∃ c : VC, e = .returned (.agg #[.int .u8 c.k, .int .i64 c.n, .string c.s, .slice c.la c.ll c.lc, .slice c.oa c.ol c.oc]) ∧ RStep w w' rb ∧ IsVal (only (fun b => w.heap.size ≤ b) w') w'.heap.size x c ∧ Rdr w' rb r 0 := by
  have := rValue_any 18 w rb bs 0 h (by omega) (by omega)
  rw [hr] at this
  exact this.mono fun e w' h => RV_some h
theorem results_wholeV {tmps : Array Value} {W : World} {b b' : Nat} {c : VC} {x : Value} (ht : tmps[6]? = some (.pointer (some ⟨b, 0, none⟩))) (ht' : tmps[7]? = some (.pointer (some ⟨b', 0, none⟩))) (h : BC W b [.int .u8 c.k, .int .i64 c.n, .string c.s, .slice c.la c.ll c.lc, .slice c.oa c.ol c.oc]) (h' : BC W b' [x]) :
    (results Tryd.f27 tmps).run Tryd.prog W = .ok (.tuple #[.agg #[.int .u8 c.k, .int .i64 c.n, .string c.s, .slice c.la c.ll c.lc, .slice c.oa c.ol c.oc], x]) W := by
  have r0 := h.at_ 0 _ rfl; have r1 := h.at_ 1 _ rfl; have r2 := h.at_ 2 _ rfl; have r3 := h.at_ 3 _ rfl; have r4 := h.at_ 4 _ rfl
  have s0 := h'.at_ 0 _ rfl
  simp [results, Tryd.results27, go_sem, ht, ht', s0, r0, r1, r2, r3, r4]
def WVPost (w : World) (r : V × Int) (e : Ending) (w' : World) : Prop :=
  (∃ c : VC, e = .returned (.tuple #[.agg #[.int .u8 c.k, .int .i64 c.n, .string c.s, .slice c.la c.ll c.lc, .slice c.oa c.ol c.oc], .int .u16 r.2]) ∧ IsVal (only (fun b => w.heap.size ≤ b) w') w'.heap.size r.1 c) ∧ Below w.heap.size w w'
theorem wdoorV_short {tmps : Array Value} {w W : World} {cs : List Value} {x : Value} (H : WH w W vz cs x) (hl : cs.length = 5) (ht : tmps[6]? = some (.pointer (some ⟨w.heap.size, 0, none⟩))) (ht' : tmps[7]? = some (.pointer (some ⟨w.heap.size + 1, 0, none⟩))) :
    Leaves Tryd.prog Tryd.f27 tmps (WVPost w (V.none, 100)) [{ target := .fn (.func 55) #[.pointer (some ⟨w.heap.size + 1 + 1, 0, none⟩), .pointer (some ⟨w.heap.size, 0, none⟩), .pointer (some ⟨w.heap.size + 1, 0, none⟩)], args := #[] }] (.panicking [short]) W := by
  refine leaves_cons (f := 55) (args := #[.pointer (some ⟨w.heap.size + 1 + 1, 0, none⟩), .pointer (some ⟨w.heap.size, 0, none⟩), .pointer (some ⟨w.heap.size + 1, 0, none⟩)]) (by simp) (by simp [go_sem]) ?_
  refine (catchV_short (w.heap.size + 2) w.heap.size (w.heap.size + 1) W H.non cs H.out hl x H.err (by omega) (by omega)).mono ?_
  rintro e u' w'' ⟨rfl, rfl, hw⟩
  show Leaves _ _ _ _ [] .returning w''
  obtain ⟨W1, hW1⟩ : ∃ W1, (((((W.setCell ⟨w.heap.size, 0, none⟩ (.int .u8 0)).setCell ⟨w.heap.size, 1, none⟩ (.int .i64 0)).setCell ⟨w.heap.size, 2, none⟩ (.string { data := #[] })).setCell ⟨w.heap.size, 3, none⟩ (.slice none 0 0)).setCell ⟨w.heap.size, 4, none⟩ (.slice none 0 0)) = W1 := ⟨_, rfl⟩
  have c1 : BC W1 w.heap.size vz := by
    rw [← hW1]
    match cs, hl, H.out with
    | [z0, z1, z2, z3, z4], _, ho => exact (((((ho.set (i := 0) (x := .int .u8 0) (by simp)).set (i := 1) (x := .int .i64 0) (by simp)).set (i := 2) (x := .string { data := #[] }) (by simp)).set (i := 3) (x := .slice none 0 0) (by simp)).set (i := 4) (x := .slice none 0 0) (by simp))
  have e1 : BC W1 (w.heap.size + 1) [x] := by
    rw [← hW1]
    exact (((((H.err.far (by omega)).far (by omega)).far (by omega)).far (by omega)).far (by omega))
  have s1 : RStep W W1 w.heap.size := by rw [← hW1]; exact (((RStep.self.trans RStep.self).trans RStep.self).trans RStep.self).trans RStep.self
  rw [hW1] at hw
  have c2 : BC (W1.setCell ⟨w.heap.size + 1, 0, none⟩ (.int .u16 100)) w.heap.size vz := c1.far (by omega)
  have e2 : BC (W1.setCell ⟨w.heap.size + 1, 0, none⟩ (.int .u16 100)) (w.heap.size + 1) [.int .u16 100] := e1.set (i := 0) (x := .int .u16 100) (by simp)
  have hb : Below (W1.setCell ⟨w.heap.size + 1, 0, none⟩ (.int .u16 100)).heap.size (W1.setCell ⟨w.heap.size + 1, 0, none⟩ (.int .u16 100)) w'' := by rw [hw]; exact (Below.refl _ _).alloc (Nat.le_refl _) _
  have s2 : RStep W1 (W1.setCell ⟨w.heap.size + 1, 0, none⟩ (.int .u16 100)) (w.heap.size + 1) := RStep.self
  have hlt := H.out.lt
  have hB : Below w.heap.size w w'' := by
    have b1 : Below w.heap.size W W1 := s1.below (by omega)
    have b2 : Below w.heap.size W1 (W1.setCell ⟨w.heap.size + 1, 0, none⟩ (.int .u16 100)) := (s2.below (by have := s1.size; have := H.err.lt; omega)).mono (by omega)
    have z1 := s1.size
    have z2 := s2.size
    exact ((H.below.trans b1).trans b2).trans (hb.mono (by omega))
  exact ⟨_, results_wholeV (c := vzero) ht ht' (c2.keep hb c2.lt) (e2.keep hb e2.lt), ⟨vzero, rfl, isVal_none _ _⟩, hB⟩
theorem wdoorV_idle {tmps : Array Value} {w W : World} {c : VC} {v : V} {x : Int} (H : WH w W vz [.int .u8 c.k, .int .i64 c.n, .string c.s, .slice c.la c.ll c.lc, .slice c.oa c.ol c.oc] (.int .u16 x)) (hv : IsVal (only (fun b => w.heap.size ≤ b) W) W.heap.size v c) (ht : tmps[6]? = some (.pointer (some ⟨w.heap.size, 0, none⟩))) (ht' : tmps[7]? = some (.pointer (some ⟨w.heap.size + 1, 0, none⟩))) :
    Leaves Tryd.prog Tryd.f27 tmps (WVPost w (v, x)) [{ target := .fn (.func 55) #[.pointer (some ⟨w.heap.size + 1 + 1, 0, none⟩), .pointer (some ⟨w.heap.size, 0, none⟩), .pointer (some ⟨w.heap.size + 1, 0, none⟩)], args := #[] }] .returning W := by
  refine leaves_cons (f := 55) (args := #[.pointer (some ⟨w.heap.size + 1 + 1, 0, none⟩), .pointer (some ⟨w.heap.size, 0, none⟩), .pointer (some ⟨w.heap.size + 1, 0, none⟩)]) (by simp) (by simp [go_sem]) ?_
  refine (catchV_idle (w.heap.size + 2) w.heap.size (w.heap.size + 1) W).mono ?_
  rintro e u' w'' ⟨rfl, rfl, rfl⟩
  exact ⟨_, results_wholeV ht ht' H.out H.err, ⟨c, rfl, hv⟩, H.below⟩
theorem WH.storeV {w W : World} {z0 z1 z2 z3 z4 x : Value} (h : WH w W vz [z0, z1, z2, z3, z4] x) (c : VC) : WH w ((((((W.setCell ⟨w.heap.size, 0, none⟩ (.int .u8 c.k)).setCell ⟨w.heap.size, 1, none⟩ (.int .i64 c.n)).setCell ⟨w.heap.size, 2, none⟩ (.string c.s)).setCell ⟨w.heap.size, 3, none⟩ (.slice c.la c.ll c.lc)).setCell ⟨w.heap.size, 4, none⟩ (.slice c.oa c.ol c.oc))) vz [.int .u8 c.k, .int .i64 c.n, .string c.s, .slice c.la c.ll c.lc, .slice c.oa c.ol c.oc] x ∧ RStep W ((((((W.setCell ⟨w.heap.size, 0, none⟩ (.int .u8 c.k)).setCell ⟨w.heap.size, 1, none⟩ (.int .i64 c.n)).setCell ⟨w.heap.size, 2, none⟩ (.string c.s)).setCell ⟨w.heap.size, 3, none⟩ (.slice c.la c.ll c.lc)).setCell ⟨w.heap.size, 4, none⟩ (.slice c.oa c.ol c.oc))) w.heap.size := by
  have s1 : RStep W ((((((W.setCell ⟨w.heap.size, 0, none⟩ (.int .u8 c.k)).setCell ⟨w.heap.size, 1, none⟩ (.int .i64 c.n)).setCell ⟨w.heap.size, 2, none⟩ (.string c.s)).setCell ⟨w.heap.size, 3, none⟩ (.slice c.la c.ll c.lc)).setCell ⟨w.heap.size, 4, none⟩ (.slice c.oa c.ol c.oc))) w.heap.size := (((RStep.self.trans RStep.self).trans RStep.self).trans RStep.self).trans RStep.self
  have hlt := h.out.lt
  exact ⟨⟨(((((h.out.set (i := 0) (x := .int .u8 c.k) (by simp)).set (i := 1) (x := .int .i64 c.n) (by simp)).set (i := 2) (x := .string c.s) (by simp)).set (i := 3) (x := .slice c.la c.ll c.lc) (by simp)).set (i := 4) (x := .slice c.oa c.ol c.oc) (by simp)), h.err.next s1 (by omega), h.non.next s1 (by omega), h.below.trans (s1.below (by omega))⟩, s1⟩
set_option maxHeartbeats 4000000 in
set_option maxRecDepth 100000 in
theorem wholeV_none (w : World) (a : Option Addr) (n c : Nat) (bs : List UInt8) (h : IsB w w.heap.size a n c bs) (hn : bs.length ≤ 60000) (hr : rdV 18 bs = none) :
    Calls Tryd.prog 27 #[.slice a n c, .func (.func 28) #[] #[], .func (.func 15) #[] #[]] w (WVPost w (V.none, 100)) := by
  have hmf : ∀ (fn : Fn) (first cap : Array Value) (w : World), (Instr.makeFunc fn first cap).run Tryd.prog w = .ok (.func fn first cap) w := fun _ _ _ _ => rfl
  have HS := Lib.hid (WH.start w vz bs a n c h)
  have hnn := h.len
  have hn2 : ¬ 60000 < n := by omega
  clear h hnn hn
  go_enter_defers Tryd.func27, Tryd.ntmps27
  go_wp2_with (go_at_call 28; refine (rw_none _ (w.heap.size + 3) bs (HS.out _ _ _ _ _ rfl).2.1 hr).mono ?_; rintro e w4 ⟨rfl, hS4, hR4⟩)
  have HH := HS.out _ _ _ _ _ hS4.src
  exact wdoorV_short (HH.1.read hS4 (by omega)) rfl rfl rfl
set_option maxHeartbeats 4000000 in
set_option maxRecDepth 100000 in
theorem wholeV_long (w : World) (a : Option Addr) (n c : Nat) (bs : List UInt8) (h : IsB w w.heap.size a n c bs) (hn : 60000 < bs.length) :
    Calls Tryd.prog 27 #[.slice a n c, .func (.func 28) #[] #[], .func (.func 15) #[] #[]] w (WVPost w (V.none, 3)) := by
  have hnn := h.len
  have hn2 : 60000 < n := by omega
  clear h hnn hn
  go_enter_defers Tryd.func27, Tryd.ntmps27
  go_wp2_with fail
  obtain ⟨w1, hw1⟩ : ∃ w1, w.alloc (.cells vz.toArray 28) = w1 := ⟨_, rfl⟩
  have s1 : w1.heap.size = w.heap.size + 1 := by rw [← hw1, World.size_alloc]
  have b1 : Below w.heap.size w w1 := by rw [← hw1]; exact (Below.refl _ _).alloc (Nat.le_refl _) _
  have c1 : BC w1 w.heap.size vz := by rw [← hw1]; exact BC.start w vz.toArray _
  obtain ⟨w2, hw2⟩ : ∃ w2, w1.alloc (.cells #[.int .u16 3] 33) = w2 := ⟨_, rfl⟩
  have s2 : w2.heap.size = w.heap.size + 2 := by rw [← hw2, World.size_alloc, s1]
  have b2 : Below w1.heap.size w1 w2 := by rw [← hw2]; exact (Below.refl _ _).alloc (Nat.le_refl _) _
  have c2 : BC w2 (w.heap.size + 1) [.int .u16 3] := by rw [← hw2, ← s1]; exact BC.start w1 #[.int .u16 3] _
  have b3 : Below w2.heap.size w2 (w2.alloc (.cells vz.toArray 28)) := (Below.refl _ _).alloc (Nat.le_refl _) _
  have hB : Below w.heap.size w (w2.alloc (.cells vz.toArray 28)) := (b1.trans (b2.mono (by omega))).trans (b3.mono (by omega))
  have hfin : WVPost w (V.none, 3) (.returned (.tuple #[.agg #[.int .u8 vzero.k, .int .i64 vzero.n, .string vzero.s, .slice vzero.la vzero.ll vzero.lc, .slice vzero.oa vzero.ol vzero.oc], .int .u16 3])) (w2.alloc (.cells vz.toArray 28)) := ⟨⟨vzero, rfl, isVal_none _ _⟩, hB⟩
  have hres := fun tmps ht ht' => results_wholeV (tmps := tmps) (c := vzero) ht ht' ((c1.keep b2 (by omega)).keep b3 (by omega)) (c2.keep b3 (by omega))
  rw [← hw2, ← hw1] at hfin hres
  exact ⟨_, hres _ rfl rfl, hfin⟩
set_option maxHeartbeats 8000000 in
set_option maxRecDepth 100000 in
theorem wholeV_bad (w : World) (a : Option Addr) (n c : Nat) (bs : List UInt8) (h : IsB w w.heap.size a n c bs) (hn : bs.length ≤ 60000) {v : V} {r : List UInt8} (hr : rdV 18 bs = some (v, r)) (hsz : (encV v).length ≤ 70368744177664) (sd : Bool)
    (HLV : Hid (∀ W5, Below w.heap.size w W5 → ∀ cv : VC, IsVal W5 W5.heap.size v cv → Hid (∀ W, Below W5.heap.size W5 W → Calls Tryd.prog 39 #[.agg #[.int .u8 cv.k, .int .i64 cv.n, .string cv.s, .slice cv.la cv.ll cv.lc, .slice cv.oa cv.ol cv.oc]] W fun e w' => e = .returned (.bool sd) ∧ Below W.heap.size W w'))) (hbad : outN sd (encV v) ≠ 0) :
    Calls Tryd.prog 27 #[.slice a n c, .func (.func 28) #[] #[], .func (.func 15) #[] #[]] w (WVPost w (V.none, 100)) := by
  have hmf : ∀ (fn : Fn) (first cap : Array Value) (w : World), (Instr.makeFunc fn first cap).run Tryd.prog w = .ok (.func fn first cap) w := fun _ _ _ _ => rfl
  have HS := Lib.hid (WH.start w vz bs a n c h)
  have hnn := h.len
  have hn2 : ¬ 60000 < n := by omega
  obtain ⟨en, hen⟩ : ∃ en, encV v = en := ⟨_, rfl⟩
  have HEN := Lib.hid hen
  obtain ⟨N, hN⟩ : ∃ N, outN sd en = N := ⟨_, rfl⟩
  have HN := Lib.hid hN
  rw [hen, hN] at hbad
  have fN : (N == 0) = false := by simpa using hbad
  have fN2 : (N != 0) = true := by simpa using hbad
  have fN3 : decide (N = 0) = false := by simpa using hbad
  clear h hnn hn hen hN
  go_enter_defers Tryd.func27, Tryd.ntmps27
  go_wp2_with (first | (go_at_call 28; refine (rw_some _ (w.heap.size + 3) bs (HS.out _ _ _ _ _ rfl).2.1 hr).mono ?_; rintro e w4 ⟨cv, rfl, hS4, hI4, hR4⟩; have HH := HS.out _ _ _ _ _ hS4.src; have H4 := HH.1.read hS4 (by omega); have O := H4.out; have o0 := O.at_ 0 _ rfl; have g0 := O.fr 0; have o1 := O.at_ 1 _ rfl; have g1 := O.fr 1; have o2 := O.at_ 2 _ rfl; have g2 := O.fr 2; have o3 := O.at_ 3 _ rfl; have g3 := O.fr 3; have o4 := O.at_ 4 _ rfl; have g4 := O.fr 4; have H5 := H4.storeV cv; have hV5 := (isVal_far (hI4.sub (shows_step (S' := fun b => w.heap.size + 4 ≤ b) fun k hk _ => ⟨by have := HH.2.2; omega, rfl⟩)) H5.2 (by omega)).sub (shows_only _ _ _); have HV5 := Lib.hid hV5; have HH5 := Lib.hid H5.1; clear hI4 hV5 H5 H4 HH O) | (go_at_call 15; refine (value_of sd _ cv.k cv.n cv.s cv.la cv.ll cv.lc cv.oa cv.ol cv.oc v HV5.out (HLV.out _ HH5.out.below cv HV5.out) hsz).mono ?_; rw [HEN.out]; rintro e w6 ⟨⟨ra, rn, rc, rfl, hI6⟩, hb6⟩; rw [HN.out]; have H6 := HH5.out.next hb6; clear hI6; have o0 := H6.out.at_ 0 _ rfl; have g0 := H6.out.fr 0; have n0 := H6.non.at_ 0 _ rfl; have o1 := H6.out.at_ 1 _ rfl; have g1 := H6.out.fr 1; have n1 := H6.non.at_ 1 _ rfl; have o2 := H6.out.at_ 2 _ rfl; have g2 := H6.out.fr 2; have n2 := H6.non.at_ 2 _ rfl; have o3 := H6.out.at_ 3 _ rfl; have g3 := H6.out.fr 3; have n3 := H6.non.at_ 3 _ rfl; have o4 := H6.out.at_ 4 _ rfl; have g4 := H6.out.fr 4; have n4 := H6.non.at_ 4 _ rfl; have x0 := H6.err.at_ 0 _ rfl; have xf := H6.err.fr 0; have HH6 := Lib.hid H6; clear H6))
  refine wdoorV_idle (c := vzero) (v := V.none) ?_ ?_ ?_ ?_
  · exact (HH6.out.storeV vzero).1.setErr
  · exact isVal_none _ _
  · rfl
  · rfl
set_option maxHeartbeats 8000000 in
set_option maxRecDepth 100000 in
theorem wholeV_neq (w : World) (a : Option Addr) (n c : Nat) (bs : List UInt8) (h : IsB w w.heap.size a n c bs) (hn : bs.length ≤ 60000) {v : V} {r : List UInt8} (hr : rdV 18 bs = some (v, r)) (hsz : (encV v).length ≤ 70368744177664) (sd : Bool)
    (HLV : Hid (∀ W5, Below w.heap.size w W5 → ∀ cv : VC, IsVal W5 W5.heap.size v cv → Hid (∀ W, Below W5.heap.size W5 W → Calls Tryd.prog 39 #[.agg #[.int .u8 cv.k, .int .i64 cv.n, .string cv.s, .slice cv.la cv.ll cv.lc, .slice cv.oa cv.ol cv.oc]] W fun e w' => e = .returned (.bool sd) ∧ Below W.heap.size W w'))) (hok : outN sd (encV v) = 0) (heq : eqBs (outB sd (encV v)) bs = false) :
    Calls Tryd.prog 27 #[.slice a n c, .func (.func 28) #[] #[], .func (.func 15) #[] #[]] w (WVPost w (V.none, 100)) := by
  have hmf : ∀ (fn : Fn) (first cap : Array Value) (w : World), (Instr.makeFunc fn first cap).run Tryd.prog w = .ok (.func fn first cap) w := fun _ _ _ _ => rfl
  have HS := Lib.hid (WH.start w vz bs a n c h)
  have HI := Lib.hid h
  have hnn := h.len
  have hn2 : ¬ 60000 < n := by omega
  obtain ⟨en, hen⟩ : ∃ en, encV v = en := ⟨_, rfl⟩
  rw [hen] at hok heq
  have HEN := Lib.hid hen
  have HN := Lib.hid hok
  have HE := Lib.hid heq
  clear h hnn hn hen hok heq
  go_enter_defers Tryd.func27, Tryd.ntmps27
  go_wp2_with (first | (go_at_call 28; refine (rw_some _ (w.heap.size + 3) bs (HS.out _ _ _ _ _ rfl).2.1 hr).mono ?_; rintro e w4 ⟨cv, rfl, hS4, hI4, hR4⟩; have HH := HS.out _ _ _ _ _ hS4.src; have H4 := HH.1.read hS4 (by omega); have O := H4.out; have o0 := O.at_ 0 _ rfl; have g0 := O.fr 0; have o1 := O.at_ 1 _ rfl; have g1 := O.fr 1; have o2 := O.at_ 2 _ rfl; have g2 := O.fr 2; have o3 := O.at_ 3 _ rfl; have g3 := O.fr 3; have o4 := O.at_ 4 _ rfl; have g4 := O.fr 4; have H5 := H4.storeV cv; have hV5 := (isVal_far (hI4.sub (shows_step (S' := fun b => w.heap.size + 4 ≤ b) fun k hk _ => ⟨by have := HH.2.2; omega, rfl⟩)) H5.2 (by omega)).sub (shows_only _ _ _); have HV5 := Lib.hid hV5; have HH5 := Lib.hid H5.1; clear hI4 hV5 H5 H4 HH O) | (go_at_call 15; refine (value_of sd _ cv.k cv.n cv.s cv.la cv.ll cv.lc cv.oa cv.ol cv.oc v HV5.out (HLV.out _ HH5.out.below cv HV5.out) hsz).mono ?_; rw [HEN.out]; rintro e w6 ⟨⟨ra, rn, rc, rfl, hI6⟩, hb6⟩; rw [HN.out]; have H6 := HH5.out.next hb6; have HI6 := Lib.hid hI6; clear hI6; have o0 := H6.out.at_ 0 _ rfl; have g0 := H6.out.fr 0; have n0 := H6.non.at_ 0 _ rfl; have o1 := H6.out.at_ 1 _ rfl; have g1 := H6.out.fr 1; have n1 := H6.non.at_ 1 _ rfl; have o2 := H6.out.at_ 2 _ rfl; have g2 := H6.out.fr 2; have n2 := H6.non.at_ 2 _ rfl; have o3 := H6.out.at_ 3 _ rfl; have g3 := H6.out.fr 3; have n3 := H6.non.at_ 3 _ rfl; have o4 := H6.out.at_ 4 _ rfl; have g4 := H6.out.fr 4; have n4 := H6.non.at_ 4 _ rfl; have x0 := H6.err.at_ 0 _ rfl; have xf := H6.err.fr 0; have HH6 := Lib.hid H6; clear H6))
  refine (equal_any w6 _ _ ra a rn n rc c _ bs HI6.out (HI.out.keep HH6.out.below)).mono ?_
  rw [HE.out]
  rintro e w7 ⟨rfl, rfl⟩
  go_wp2_with fail
  refine wdoorV_idle (c := vzero) (v := V.none) ?_ ?_ ?_ ?_
  · exact (HH6.out.storeV vzero).1.setErr
  · exact isVal_none _ _
  · rfl
  · rfl
set_option maxHeartbeats 8000000 in
set_option maxRecDepth 100000 in
theorem wholeV_eq (w : World) (a : Option Addr) (n c : Nat) (bs : List UInt8) (h : IsB w w.heap.size a n c bs) (hn : bs.length ≤ 60000) {v : V} {r : List UInt8} (hr : rdV 18 bs = some (v, r)) (hsz : (encV v).length ≤ 70368744177664) (sd : Bool)
    (HLV : Hid (∀ W5, Below w.heap.size w W5 → ∀ cv : VC, IsVal W5 W5.heap.size v cv → Hid (∀ W, Below W5.heap.size W5 W → Calls Tryd.prog 39 #[.agg #[.int .u8 cv.k, .int .i64 cv.n, .string cv.s, .slice cv.la cv.ll cv.lc, .slice cv.oa cv.ol cv.oc]] W fun e w' => e = .returned (.bool sd) ∧ Below W.heap.size W w'))) (hok : outN sd (encV v) = 0) (heq : eqBs (outB sd (encV v)) bs = true) :
    Calls Tryd.prog 27 #[.slice a n c, .func (.func 28) #[] #[], .func (.func 15) #[] #[]] w (WVPost w (v, 0)) := by
  have hmf : ∀ (fn : Fn) (first cap : Array Value) (w : World), (Instr.makeFunc fn first cap).run Tryd.prog w = .ok (.func fn first cap) w := fun _ _ _ _ => rfl
  have HS := Lib.hid (WH.start w vz bs a n c h)
  have HI := Lib.hid h
  have hnn := h.len
  have hn2 : ¬ 60000 < n := by omega
  obtain ⟨en, hen⟩ : ∃ en, encV v = en := ⟨_, rfl⟩
  rw [hen] at hok heq
  have HEN := Lib.hid hen
  have HN := Lib.hid hok
  have HE := Lib.hid heq
  clear h hnn hn hen hok heq
  go_enter_defers Tryd.func27, Tryd.ntmps27
  go_wp2_with (first | (go_at_call 28; refine (rw_some _ (w.heap.size + 3) bs (HS.out _ _ _ _ _ rfl).2.1 hr).mono ?_; rintro e w4 ⟨cv, rfl, hS4, hI4, hR4⟩; have HH := HS.out _ _ _ _ _ hS4.src; have H4 := HH.1.read hS4 (by omega); have O := H4.out; have o0 := O.at_ 0 _ rfl; have g0 := O.fr 0; have o1 := O.at_ 1 _ rfl; have g1 := O.fr 1; have o2 := O.at_ 2 _ rfl; have g2 := O.fr 2; have o3 := O.at_ 3 _ rfl; have g3 := O.fr 3; have o4 := O.at_ 4 _ rfl; have g4 := O.fr 4; have H5 := H4.storeV cv; have hV5 := (isVal_far (hI4.sub (shows_step (S' := fun b => w.heap.size + 4 ≤ b) fun k hk _ => ⟨by have := HH.2.2; omega, rfl⟩)) H5.2 (by omega)); have HVF := Lib.hid hV5; have HV5 := Lib.hid (hV5.sub (shows_only _ _ _)); have HH5 := Lib.hid H5.1; clear hI4 hV5 H5 H4 HH O) | (go_at_call 15; refine (value_of sd _ cv.k cv.n cv.s cv.la cv.ll cv.lc cv.oa cv.ol cv.oc v HV5.out (HLV.out _ HH5.out.below cv HV5.out) hsz).mono ?_; rw [HEN.out]; rintro e w6 ⟨⟨ra, rn, rc, rfl, hI6⟩, hb6⟩; rw [HN.out]; have H6 := HH5.out.next hb6; have HI6 := Lib.hid hI6; have HV6 := Lib.hid (isVal_far HVF.out (RStep.of_below w.heap.size hb6) (by omega)); clear hI6; have o0 := H6.out.at_ 0 _ rfl; have g0 := H6.out.fr 0; have n0 := H6.non.at_ 0 _ rfl; have o1 := H6.out.at_ 1 _ rfl; have g1 := H6.out.fr 1; have n1 := H6.non.at_ 1 _ rfl; have o2 := H6.out.at_ 2 _ rfl; have g2 := H6.out.fr 2; have n2 := H6.non.at_ 2 _ rfl; have o3 := H6.out.at_ 3 _ rfl; have g3 := H6.out.fr 3; have n3 := H6.non.at_ 3 _ rfl; have o4 := H6.out.at_ 4 _ rfl; have g4 := H6.out.fr 4; have n4 := H6.non.at_ 4 _ rfl; have x0 := H6.err.at_ 0 _ rfl; have xf := H6.err.fr 0; have HH6 := Lib.hid H6; clear H6))
  refine (equal_any w6 _ _ ra a rn n rc c _ bs HI6.out (HI.out.keep HH6.out.below)).mono ?_
  rw [HE.out]
  rintro e w7 ⟨rfl, rfl⟩
  go_wp2_with fail
  have HST := HH6.out.storeV cv
  exact wdoorV_idle (c := cv) HST.1.setErr ((isVal_far (isVal_far HV6.out HST.2 (by omega)) (RStep.self (b := w.heap.size + 1)) (by omega)).sub (shows_step fun k hk _ => ⟨by omega, rfl⟩)) rfl rfl
end Go.Proofs.YtcfbnmobfcabiaaDoor
namespace Go.Proofs.YtcfbnmobfcabiaaDoor
open Go.RowKit
theorem QR.start2 (w : World) (t : Tk) (c : VC) (t1 t2 t3 : TypeId) (W : World) (hW : W = ((w.alloc (.cells #[.int .u8 0, .int .i64 0, .string { data := #[] }, .slice none 0 0, .slice none 0 0] t1)).alloc (.cells #[.int .u8 t.k, .int .i64 t.n, .string t.s, .int .u8 t.m] t2)).alloc (.cells #[.int .u8 c.k, .int .i64 c.n, .string c.s, .slice c.la c.ll c.lc, .slice c.oa c.ol c.oc] t3)) :
    QR w W t c ∧ W.heap.size = w.heap.size + 3 := by
  obtain ⟨w1, hw1⟩ : ∃ w1, w.alloc (.cells #[.int .u8 0, .int .i64 0, .string { data := #[] }, .slice none 0 0, .slice none 0 0] t1) = w1 := ⟨_, rfl⟩
  have s1 : w1.heap.size = w.heap.size + 1 := by rw [← hw1, World.size_alloc]
  have b1 : Below w.heap.size w w1 := by rw [← hw1]; exact (Below.refl _ _).alloc (Nat.le_refl _) _
  have c1 : BC w1 w.heap.size [.int .u8 0, .int .i64 0, .string { data := #[] }, .slice none 0 0, .slice none 0 0] := by rw [← hw1]; exact BC.start w #[.int .u8 0, .int .i64 0, .string { data := #[] }, .slice none 0 0, .slice none 0 0] t1
  rw [hw1] at hW
  obtain ⟨w2, hw2⟩ : ∃ w2, w1.alloc (.cells #[.int .u8 t.k, .int .i64 t.n, .string t.s, .int .u8 t.m] t2) = w2 := ⟨_, rfl⟩
  have s2 : w2.heap.size = w.heap.size + 2 := by rw [← hw2, World.size_alloc, s1]
  have b2 : Below w1.heap.size w1 w2 := by rw [← hw2]; exact (Below.refl _ _).alloc (Nat.le_refl _) _
  have c2 := BC.start w1 #[.int .u8 t.k, .int .i64 t.n, .string t.s, .int .u8 t.m] t2
  rw [hw2, s1] at c2
  rw [hw2] at hW
  subst hW
  have b3 : Below w2.heap.size w2 (w2.alloc (.cells #[.int .u8 c.k, .int .i64 c.n, .string c.s, .slice c.la c.ll c.lc, .slice c.oa c.ol c.oc] t3)) := (Below.refl _ _).alloc (Nat.le_refl _) _
  have c3 := BC.start w2 #[.int .u8 c.k, .int .i64 c.n, .string c.s, .slice c.la c.ll c.lc, .slice c.oa c.ol c.oc] t3
  rw [s2] at c3
  exact ⟨⟨(c1.keep b2 (by omega)).keep b3 (by omega), c2.keep b3 (by omega), c3, (b1.trans (b2.mono (by omega))).trans (b3.mono (by omega))⟩, by rw [World.size_alloc, s2]⟩
theorem results_one {tmps : Array Value} {W : World} {b : Nat} {c : VC} {x : Value} (ht : tmps[4]? = some (.pointer (some ⟨b, 0, none⟩))) (ht' : tmps[5]? = some x) (h : BC W b (vcells c)) :
    (results Tryd.f43 tmps).run Tryd.prog W = .ok (.tuple #[.agg #[.int .u8 c.k, .int .i64 c.n, .string c.s, .slice c.la c.ll c.lc, .slice c.oa c.ol c.oc], x]) W := by
  obtain ⟨r0, r1, r2, r3, r4⟩ := (⟨h.at_ 0 _ rfl, h.at_ 1 _ rfl, h.at_ 2 _ rfl, h.at_ 3 _ rfl, h.at_ 4 _ rfl⟩ : W.cell? ⟨b, 0, none⟩ = some (.int .u8 c.k) ∧ W.cell? ⟨b, 1, none⟩ = some (.int .i64 c.n) ∧ W.cell? ⟨b, 2, none⟩ = some (.string c.s) ∧ W.cell? ⟨b, 3, none⟩ = some (.slice c.la c.ll c.lc) ∧ W.cell? ⟨b, 4, none⟩ = some (.slice c.oa c.ol c.oc))
  simp [results, Tryd.results43, go_sem, ht, ht', r0, r1, r2, r3, r4]
theorem one_leave {w W : World} {c : VC} {r : V × Nat} {a : Act} (h : BC W w.heap.size (vcells c)) (hb : Below w.heap.size w W) (hv : IsVal (only (fun b => w.heap.size ≤ b) W) W.heap.size r.1 c) (hd : a.defers = []) (ht : a.tmps[4]? = some (.pointer (some ⟨w.heap.size, 0, none⟩))) (ht' : a.tmps[5]? = some (.int .i64 (r.2 : Int))) :
    bodyPost Tryd.prog Tryd.f43 (RawPost w r) .ret a W :=
  ⟨hd, _, results_one ht ht' h, ⟨c, rfl, hv⟩, hb⟩
/-- At the head of a round of one's loop (list). -/
structure BLL (w wr : World) (d : Nat) (l : List Tk) (t : Tk) (j : Nat) (a : Option Addr) (m c : Nat) (xs : List V) (cs : List VC) (u : Nat) : Prop where
  rd : bL (oneP d) l j = (xs, u)
  len : xs.length = j
  cen : cs.length = j
  box : QR w wr t ⟨4, 0, .empty, a, m, c, none, 0, 0⟩
  row : RowV wr (w.heap.size + 3) (.slice a m c) xs cs
theorem BLL.round {w wr w4 w6 w7 : World} {d : Nat} {l : List Tk} {t : Tk} {j : Nat} {a : Option Addr} {m c : Nat} {xs : List V} {cs : List VC} {u : Nat} {x : V} {q : Nat} {cx : VC} {g cap : Nat}
    (h : BLL w wr d l t j a m c xs cs u) (hx : oneP d (l.drop u) = (x, q)) (hb4 : Below wr.heap.size wr w4) (hI : IsVal (only (fun b => wr.heap.size ≤ b) w4) w4.heap.size x cx) (hb6 : Below w4.heap.size w4 w6)
    (hown : w7.ownsRow (w.heap.size + 3) 28 5 (.slice (some ⟨g, 0, none⟩) (j + 1) cap) (j + 1) (cs.flatMap vcells ++ vcells cx)) (hg : w6.grownBy w7 (Value.slice a m c).ownBlock)
    (hat : (Value.slice a m c).ownBlock = some g ∨ w4.heap.size ≤ g) :
    BLL w (w7.setCell ⟨w.heap.size + 2, 3, none⟩ (.slice (some ⟨g, 0, none⟩) (j + 1) cap)) d l t (j + 1) (some ⟨g, 0, none⟩) (j + 1) cap (xs ++ [x]) (cs ++ [cx]) (u + q) := by
  have hrow := h.row.later (PV.closed xs cs) (.of_below 0 hb4) (by omega)
  have hrlt : ∀ b, (Value.slice a m c).ownBlock = some b → w.heap.size + 3 ≤ b ∧ b < wr.heap.size := h.row.lt
  have hsz := h.box.val.lt
  have hsz4 := hb4.size
  have hsz6 := hb6.size
  have hgb : Below (w.heap.size + 3) w6 w7 := grown_below hg (fun b hb => (hrlt b hb).1) (by omega)
  have hb67 : Below (w.heap.size + 3) w4 w7 := (hb6.mono (by omega)).trans hgb
  obtain ⟨s1, s2⟩ := PV.snoc (l := xs) (cs := cs) (by rw [h.len, h.cen]) x cx
  have hnew : PV (xs ++ [x]) (cs ++ [cx]) (only (Free (w.heap.size + 3) (.slice a m c)) w4) w4.heap.size xs.length := s1 _ _ (hI.sub (shows_step fun b hb _ => ⟨⟨by omega, fun e => by have := (hrlt b e.symm).2; omega⟩, rfl⟩))
  have hpush := Row.push (PV.closed (xs ++ [x]) (cs ++ [cx])) hrow hb6 hg (u' := .slice (some ⟨g, 0, none⟩) (j + 1) cap) (news := vcells cx) (by rw [h.len]; exact hown) (by
    rcases hat with e | e
    · left; rw [e]; rfl
    · right; intro b hb; have : g = b := by simpa [Value.ownBlock] using hb
      omega) hnew s2
  have hbox := (h.box.next hb4).below_ hb67 (Nat.le_refl _)
  refine ⟨?_, by simp [h.len], by simp [h.cen], ?_, ?_⟩
  · rw [bL, h.rd]
    dsimp only
    rw [hx]
  · exact ⟨hbox.res.far (by omega), hbox.tok.far (by omega), hbox.val.set (i := 3) (x := .slice (some ⟨g, 0, none⟩) (j + 1) cap) (by simp [vcells]), hbox.below.trans ((RStep.self (b := w.heap.size + 2) (o := 3)).below (by have := hbox.val.lt; omega) |>.mono (by omega))⟩
  · have hr2 : RowV w7 (w.heap.size + 3) (.slice (some ⟨g, 0, none⟩) (j + 1) cap) (xs ++ [x]) (cs ++ [cx]) := by
      show Row _ _ _ _ _ _ _ _
      rw [flat_snoc, List.length_append, List.length_singleton]
      exact hpush
    exact hr2.set (PV.closed (xs ++ [x]) (cs ++ [cx])) (by omega)
/-- At the head of a round of one's loop (object). -/
structure BLO (w wr : World) (d : Nat) (l : List Tk) (t : Tk) (j : Nat) (a : Option Addr) (m c : Nat) (o : List (ByteArray × V)) (u : Nat) : Prop where
  rd : bO (oneP d) l j = (o, u)
  box : QR w wr t ⟨5, 0, .empty, none, 0, 0, a, m, c⟩
  neat : Neat a m c
  fld : IsFields (only (fun k => w.heap.size + 3 ≤ k) wr) wr.heap.size o a m c
theorem IsFields.far {W W' : World} {b base : Nat} {l : List (ByteArray × V)} {a : Option Addr} {n c : Nat} (h : IsFields (only (fun k => base ≤ k) W) W.heap.size l a n c) (s : RStep W W' b) (hb : b < base) : IsFields (only (fun k => base ≤ k) W') W'.heap.size l a n c :=
  (IsFields.sub (shows_step fun k hk hl => ⟨hk, s.block k hl (by omega)⟩) h).more s.size
theorem IsFields.behind {W W' : World} {base : Nat} {l : List (ByteArray × V)} {a : Option Addr} {n c : Nat} (h : IsFields (only (fun k => base ≤ k) W) W.heap.size l a n c) (hb : Below W.heap.size W W') : IsFields (only (fun k => base ≤ k) W') W'.heap.size l a n c :=
  (IsFields.sub (shows_step fun k hk hl => ⟨hk, hb.block k hl⟩) h).more hb.size
theorem BLO.round {w wr w5 w6 : World} {d : Nat} {l : List Tk} {t : Tk} {j : Nat} {a : Option Addr} {m c : Nat} {o : List (ByteArray × V)} {u : Nat} {x : V} {q : Nat} {a' : Option Addr} {m' c' : Nat} {key : ByteArray}
    (h : BLO w wr d l t j a m c o u) (hx : oneP d (l.drop u) = (x, q)) (hk : keyP l u = key) (hb5 : Below wr.heap.size wr w5) (hb6 : Below w5.heap.size w5 w6)
    (hf : IsFields (only (fun b => w.heap.size + 3 ≤ b) w6) w6.heap.size (withF o key x) a' m' c') (hne : Neat a' m' c') :
    BLO w (w6.setCell ⟨w.heap.size + 2, 4, none⟩ (.slice a' m' c')) d l t (j + 1) a' m' c' (withF o key x) (u + q) := by
  have hbox := (h.box.next hb5).next hb6
  have hsz := hbox.val.lt
  refine ⟨?_, ?_, hne, hf.far (RStep.self (b := w.heap.size + 2) (o := 4)) (by omega)⟩
  · rw [bO, h.rd]
    dsimp only
    rw [hx, hk]
  · exact ⟨hbox.res.far (by omega), hbox.tok.far (by omega), hbox.val.set (i := 4) (x := .slice a' m' c') (by simp [vcells]), hbox.below.trans ((RStep.self (b := w.heap.size + 2) (o := 4)).below (by omega) |>.mono (by omega))⟩
theorem isVal_of_fields {w : World} {B : Nat} {o : List (ByteArray × V)} {a : Option Addr} {n c : Nat} (h : IsFields w B o a n c) (k : Int) (hk0 : 0 ≤ k) (hk1 : k < 256) : IsVal w B (.mk k 0 .empty [] o) ⟨k, 0, .empty, none, 0, 0, a, n, c⟩ :=
  IsVal.of_lists (c := ⟨k, 0, .empty, none, 0, 0, a, n, c⟩) (l := []) ⟨hk0, hk1, (by decide : (-9223372036854775808 : Int) ≤ 0), (by decide : (0 : Int) ≤ 9223372036854775807), (by decide : ByteArray.empty.size ≤ 140737488355328), (by decide : (0 : Nat) ≤ 0), (by decide : (0 : Nat) ≤ 9223372036854775807), (by decide : (0 : Nat) ≤ 1466015503701), h.cap, h.max, h.few⟩ ⟨rfl, (by decide : (0 : Nat) ≤ 0), (by decide : (0 : Nat) ≤ 9223372036854775807), (by decide : (0 : Nat) ≤ 1466015503701), 0, 0, fun _ => vzero, fun h => absurd h (Nat.lt_irrefl 0), fun i h => absurd h (by simp)⟩ h
theorem isFields_nil (w : World) (B : Nat) : IsFields w B [] none 0 0 :=
  ⟨rfl, Nat.le_refl _, by omega, by omega, 0, 0, fun _ => vzero, fun h => absurd h (by omega), fun i h => absurd h (by simp)⟩
end Go.Proofs.YtcfbnmobfcabiaaDoor
