/-
  Contracts of the functions that the law reaches: val.Weight: of a value in memory it is the plain function's answer. val.Deep: of a value in memory it is the plain function's answer. reader.value: a list. A field's zero. reader.value's loop over an object's fields: what stands at the head of a round. reader.value: an object. raw: what stands in memory while it runs. raw. Raw. plain: a text of 40 bytes at most, all below 128. conciliatorref01.Field: where a key stands, or would. With: an object's fields, and one more. With. With: the walk. Append of nil. With: the walk, of nothing.
-/
import Derived.Test.YtcfbnmobfcabiaaDoorVal4
import Derived.BigQuiet
import Derived.Laws.AppendOwn
namespace Go.Proofs.YtcfbnmobfcabiaaDoor
open Go.RowKit Go.Shelf
attribute [local go_sem] Oper.semAt_some

def VWeight (v : V) : Prop := v.weight ≤ 4611686018427387904 → ∀ (w : World) (c : VC), IsVal w w.heap.size v c →
    Calls Tryd.prog 74 #[.agg #[.int .u8 c.k, .int .i64 c.n, .string c.s, .slice c.la c.ll c.lc, .slice c.oa c.ol c.oc]] w fun e w' => e = .returned (.int .i64 v.weight) ∧ Below w.heap.size w w'

theorem ValAt.own {β : Type} (b o : Nat) (c : β → VC) : Own (fun (x : β) W => ValAt W b o (c x)) :=
  fun _ _ _ _ hs hg hr => ⟨cell_kept hs.c0 hg hr, cell_kept hs.c1 hg hr, cell_kept hs.c2 hg hr, cell_kept hs.c3 hg hr, cell_kept hs.c4 hg hr⟩
theorem keepsOthers_below {W W' : World} (h : Below W.heap.size W W') : KeepsOthers W W' :=
  ⟨h.size, fun k _ hk _ => (h.block k (Array.getElem?_eq_some_iff.1 hk).1).trans hk⟩

theorem kids_snoc {w : World} {P : V → Prop} (pre : List (Kid w P)) (x : Kid w P) : weightO ((pre ++ [x]).map Kid.pair) = weightO (pre.map Kid.pair) + (x.kk.size + x.v.weight) := by
  rw [List.map_append, weightO_append]; simp [weightO, weightF_eq, Kid.pair]
theorem wsum (d a b c : Int) (hd : d = a + (b + c)) : wrap64 d = IntKind.i64.wrap (wrap64 a + IntKind.i64.wrap (b + c)) := by
  subst hd
  simp only [IntKind.wrap_i64, wrap64]
  omega
theorem wrap64_small {x : Int} (h0 : -9223372036854775808 ≤ x) (h1 : x ≤ 9223372036854775807) : wrap64 x = x := by unfold wrap64; omega
theorem pairs_weight (l : List V) (o : List (ByteArray × V)) : weightO (pairs l o) = weightL l + weightO o := by
  unfold pairs
  rw [weightO_append]
  congr 1
  induction l with
  | nil => rfl
  | cons v r ih => simp only [List.map_cons, weightO, weightF_eq, weightL, ih]; simp [ByteArray.size]

set_option maxHeartbeats 4000000 in
set_option maxRecDepth 100000 in
theorem valWeight_any (a : V) : VWeight a := by
  induction a using V.ind with
  | h k n s l o ihl iho =>
  intro hw w c ha
  obtain ⟨rfl, rfl, rfl, cbd, hl, ho⟩ := ha.lists
  have hw0 : 1 + c.s.size + weightL l + weightO o ≤ 4611686018427387904 := by simpa only [V.weight] using hw
  obtain ⟨ks, hks, hpr⟩ := kids_of w (fun v => VWeight v ∧ v.weight ≤ 4611686018427387904) l o c hl ho
    (fun v hv => ⟨ihl v hv, by obtain ⟨i, hi, rfl⟩ := List.getElem_of_mem hv; have := weightL_mem l i hi; omega⟩)
    (fun f hf => ⟨iho f hf, by obtain ⟨i, hi, rfl⟩ := List.getElem_of_mem hf; have := weightO_mem o i hi; omega⟩)
  clear ihl iho ha hl ho
  have c5 := cbd.s1
  refine callsIn_wide (n := 3) |>.1 ?_
  refine callsIn_of_wp_marks Tryd.func74 rfl trivial ?_ rfl
  simp only [Tryd.ntmps74, List.size_toArray, List.length_cons, List.length_nil, Nat.reduceAdd, Nat.reduceSub, Array.replicate_succ, Array.replicate_zero, List.push_toArray, List.append_toArray, List.nil_append, List.cons_append]
  gi_wp2_with (refine ⟨trivial, ?_⟩; gi_at_call 92; refine (within_in _ _ trivial rfl c _).mono ?_; rintro e w' ⟨rfl, rfl⟩)
  obtain ⟨W0, hW0⟩ : ∃ W0, (((w.alloc (.cells #[.int .u8 c.k, .int .i64 c.n, .string c.s, .slice c.la c.ll c.lc, .slice c.oa c.ol c.oc] 28)).alloc (.cells #[.int .i64 (1 + (c.s.size : Int))] 3)).alloc (.cells #[.int .u8 c.k, .int .i64 c.n, .string c.s, .slice c.la c.ll c.lc, .slice c.oa c.ol c.oc] 28)) = W0 := ⟨_, rfl⟩
  have hB0 : Below w.heap.size w W0 := by rw [← hW0]; exact (((Below.refl _ _).alloc (Nat.le_refl _) _).alloc (by simp) _).alloc (by simp; omega) _
  have hsz : W0.heap.size = w.heap.size + 3 := by rw [← hW0]; simp
  have hbx : ValAt W0 (w.heap.size + 1 + 1) 0 c := by
    rw [← hW0]
    have h := valAt_new ((w.alloc (.cells #[.int .u8 c.k, .int .i64 c.n, .string c.s, .slice c.la c.ll c.lc, .slice c.oa c.ol c.oc] 28)).alloc (.cells #[.int .i64 (1 + (c.s.size : Int))] 3)) c 28
    simp only [World.size_alloc] at h
    exact h
  have hn : Boxed W0 (w.heap.size + 1) 3 (.int .i64 (1 + (c.s.size : Int))) := by
    rw [← hW0]
    have h := Boxed.new (w.alloc (.cells #[.int .u8 c.k, .int .i64 c.n, .string c.s, .slice c.la c.ll c.lc, .slice c.oa c.ol c.oc] 28)) 3 (.int .i64 (1 + (c.s.size : Int)))
    rw [World.size_alloc] at h
    exact h.alloc _
  rw [hW0]
  clear hW0
  refine wpIn_rangeFunc_ownH (α := Kid w (fun v => VWeight v ∧ v.weight ≤ 4611686018427387904)) rfl (by omega) (gf := 98) (lb := #[.pointer (some ⟨w.heap.size + 1 + 1, 0, none⟩)]) rfl trivial (enters_of Tryd.func98 (by kernel_rfl) rfl)
    (within_stops Fence.wide 2 trivial rfl (by omega) w (fun v => VWeight v ∧ v.weight ≤ 4611686018427387904) (w.heap.size + 1 + 1) c cbd ks W0 w.heap.size (by omega) (by omega) hbx (hks.keep (.of_below_any hB0))) keepAt_t (keepAt_b (by omega) (by omega)) (Below.refl _ _) (fun _ => rfl)
    (fun pre W => (Boxed W (w.heap.size + 1) 3 (.int .i64 (wrap64 ((1 + c.s.size + weightO (pre.map Kid.pair) : Nat) : Int)))) ∧ Below w.heap.size w W ∧ W0.heap.size ≤ W.heap.size)
    (fun _ _ _ => False)
    (OwnFrom.and (Own.from (boxed_own _ _ _) _) (OwnFrom.and (ownFrom_below (Nat.le_refl _) (by omega)) (fun _ _ _ _ hs hg _ => Nat.le_trans hs hg.size)))
    (fun _ _ _ _ _ hs _ _ => hs)
    ⟨by simp only [List.map_nil, weightO, Nat.add_zero]; rw [wrap64_small (by omega) (by omega)]; simp only [Int.natCast_add, Int.natCast_one]; exact hn, hB0, Nat.le_refl _⟩
    (fun x a' W => ∃ Bx, W0.heap.size ≤ Bx ∧ ValAt W Bx 0 x.kv ∧ a' = { tmps := #[.agg #[.int .u8 c.k, .int .i64 c.n, .string c.s, .slice c.la c.ll c.lc, .slice c.oa c.ol c.oc], .pointer (some ⟨w.heap.size, 0, none⟩), .int .i64 0, .pointer (some ⟨w.heap.size + 1, 0, none⟩), .string x.kk, .pointer (some ⟨Bx, 0, none⟩), .pointer (some ⟨w.heap.size, 2, none⟩), .string c.s, .int .i64 (c.s.size : Int), .int .i64 (1 + (c.s.size : Int)), .agg #[.int .u8 c.k, .int .i64 c.n, .string c.s, .slice c.la c.ll c.lc, .slice c.oa c.ol c.oc], .func (.func 98) #[] #[.pointer (some ⟨w.heap.size + 1 + 1, 0, none⟩)], .string x.kk, .agg #[.int .u8 x.kv.k, .int .i64 x.kv.n, .string x.kv.s, .slice x.kv.la x.kv.ll x.kv.lc, .slice x.kv.oa x.kv.ol x.kv.oc], undef, undef, undef, undef, undef, undef, undef, undef], defers := [] })
    (fun x a' _ X Y row hs hg hr => by
      obtain ⟨Bx, h1, h2, h3⟩ := hs
      exact ⟨Bx, h1, ValAt.own (β := Unit) Bx 0 (fun _ => x.kv) () X Y row h2 hg (fun r e => (hr r e).2), h3⟩)
    ?assign ?body ?done ?stop
  case assign =>
    rintro l pre x W K ⟨bS1, hB1, hz1⟩ hK
    dsimp only [Kid.encs]
    gi_wp2
    exact hK _ _ ((KeepsOthers.alloc _ _).from _) (KeepAt.alloc W _ (by omega) (by omega)) ⟨bS1.alloc _, hB1.alloc hB1.size _, by simp; omega⟩ ⟨W.heap.size, hz1, valAt_new W x.kv _, rfl⟩
  case body =>
    rintro l pre x a' W hl _ ⟨bS1, hB1, hz1⟩ ⟨Bx, hBx, vX, rfl⟩ hlt
    have cS := bS1.cell
    have fS := bS1.frozen
    have r0 : W.cell? ⟨Bx, 0, none⟩ = some (.int .u8 x.kv.k) := vX.c0
    have r1 : W.cell? ⟨Bx, 1, none⟩ = some (.int .i64 x.kv.n) := vX.c1
    have r2 : W.cell? ⟨Bx, 2, none⟩ = some (.string x.kv.s) := vX.c2
    have r3 : W.cell? ⟨Bx, 3, none⟩ = some (.slice x.kv.la x.kv.ll x.kv.lc) := vX.c3
    have r4 : W.cell? ⟨Bx, 4, none⟩ = some (.slice x.kv.oa x.kv.ol x.kv.oc) := vX.c4
    have hmx : Tryd.prog.follows .mixedOrders = true := by kernel_rfl
    have hcal := fun (W' : World) (h : Below w.heap.size w W') => x.p.1 x.p.2 W' x.kv (x.is.later_ h)
    have HC := Lib.hid hcal
    clear hcal vX
    gi_wp2
    gi_region_with_o (refine ⟨trivial, ?_⟩; gi_at_call 74; refine (CallsIn.inRound l (callsIn_wide.2 (HC.out _ hB1.drew))).mono ?_; rintro e w' ⟨rfl, hb⟩; have cS' := (hb.cell (p := ⟨w.heap.size + 1, 0, none⟩) (by exact bS1.lt)).trans cS; have fS' := (hb.frozen (p := ⟨w.heap.size + 1, 0, none⟩) (by exact bS1.lt)).trans fS)
    all_goals gi_wp2
    all_goals
      have hb' := (Below.refl W.heap.size W).drew.trans hb
      have hbx' : Boxed w' (w.heap.size + 1) 3 _ := (hb'.block _ bS1.lt).trans bS1
      exact ⟨((keepsOthers_below hb').trans (KeepsOthers.setCell _ _ _)).from _, (KeepAt.of_below hb' (by omega) (by omega)).trans (KeepAt.setCell _ _ (by simp) (by simp)), by rw [num_eq (wsum ((1 + c.s.size + weightO (List.map Kid.pair (pre ++ [x])) : Nat) : Int) (1 + (c.s.size : Int) + (weightO (List.map Kid.pair pre) : Int)) x.kk.size x.v.weight (by rw [kids_snoc]; omega))]; exact hbx'.set _, (hB1.on hb' hB1.size).setCell (by simp) _, by have := hb'.size; simp [World.setCell]; omega⟩
  case done =>
    rintro D ys W hD rfl ⟨bS, hB, hz1⟩ hK
    have cS := bS.cell
    gi_wp2
    refine ⟨by simp, .inl ⟨_, _, rfl, run_takeDeferred hK, ?_⟩⟩
    refine ⟨_, results_tmp (t := 2) rfl _ _ _, ?_, hB.trans ((Below.refl _ _).grown (grownBy_putObj' _ D _) hB.size (fun k e => by cases e; omega))⟩
    show Ending.returned (.int .i64 (wrap64 (1 + (c.s.size : Int) + (weightO (pairs l o) : Nat)))) = _
    exact ret_int (by simp only [pairs_weight, V.weight]; rw [wrap64_small (by omega) (by omega)]; omega)
  case stop =>
    rintro D c' pre W _ _ h _
    exact h.elim
end Go.Proofs.YtcfbnmobfcabiaaDoor
namespace Go.Proofs.YtcfbnmobfcabiaaDoor
open Go.RowKit Go.Shelf
attribute [local go_sem] Oper.semAt_some

def VDeep (v : V) : Prop := v.weight ≤ 4611686018427387904 → ∀ (w : World) (c : VC), IsVal w w.heap.size v c →
    Calls Tryd.prog 73 #[.agg #[.int .u8 c.k, .int .i64 c.n, .string c.s, .slice c.la c.ll c.lc, .slice c.oa c.ol c.oc]] w fun e w' => e = .returned (.int .i64 v.deep) ∧ Below w.heap.size w w'

theorem kids_deep {w : World} {P : V → Prop} (pre : List (Kid w P)) (x : Kid w P) : ((deepO ((pre ++ [x]).map Kid.pair) : Nat) : Int) = max ((deepO (pre.map Kid.pair) : Nat) : Int) ((x.v.deep : Int) + 1) := by
  rw [List.map_append, deepO_append]; simp only [List.map_cons, List.map_nil, deepO, deepF_eq, Kid.pair]; omega
theorem pairs_deep (l : List V) (o : List (ByteArray × V)) : deepO (pairs l o) = max (deepL l) (deepO o) := by
  unfold pairs
  rw [deepO_append]
  congr 1
  induction l with
  | nil => rfl
  | cons v r ih => simp only [List.map_cons, deepO, deepF_eq, deepL, ih]

set_option maxHeartbeats 4000000 in
set_option maxRecDepth 100000 in
theorem valDeep_any (a : V) : VDeep a := by
  induction a using V.ind with
  | h k n s l o ihl iho =>
  intro hw w c ha
  obtain ⟨rfl, rfl, rfl, cbd, hl, ho⟩ := ha.lists
  have hw0 : 1 + c.s.size + weightL l + weightO o ≤ 4611686018427387904 := by simpa only [V.weight] using hw
  obtain ⟨ks, hks, hpr⟩ := kids_of w (fun v => VDeep v ∧ v.weight ≤ 4611686018427387904) l o c hl ho
    (fun v hv => ⟨ihl v hv, by obtain ⟨i, hi, rfl⟩ := List.getElem_of_mem hv; have := weightL_mem l i hi; omega⟩)
    (fun f hf => ⟨iho f hf, by obtain ⟨i, hi, rfl⟩ := List.getElem_of_mem hf; have := weightO_mem o i hi; omega⟩)
  clear ihl iho ha hl ho
  have c5 := cbd.s1
  refine callsIn_wide (n := 3) |>.1 ?_
  refine callsIn_of_wp_marks Tryd.func73 rfl trivial ?_ rfl
  simp only [Tryd.ntmps73, List.size_toArray, List.length_cons, List.length_nil, Nat.reduceAdd, Nat.reduceSub, Array.replicate_succ, Array.replicate_zero, List.push_toArray, List.append_toArray, List.nil_append, List.cons_append]
  gi_wp2_with (refine ⟨trivial, ?_⟩; gi_at_call 92; refine (within_in _ _ trivial rfl c _).mono ?_; rintro e w' ⟨rfl, rfl⟩)
  obtain ⟨W0, hW0⟩ : ∃ W0, (((w.alloc (.cells #[.int .u8 c.k, .int .i64 c.n, .string c.s, .slice c.la c.ll c.lc, .slice c.oa c.ol c.oc] 28)).alloc (.cells #[.int .i64 0] 3)).alloc (.cells #[.int .u8 c.k, .int .i64 c.n, .string c.s, .slice c.la c.ll c.lc, .slice c.oa c.ol c.oc] 28)) = W0 := ⟨_, rfl⟩
  have hB0 : Below w.heap.size w W0 := by rw [← hW0]; exact (((Below.refl _ _).alloc (Nat.le_refl _) _).alloc (by simp) _).alloc (by simp; omega) _
  have hsz : W0.heap.size = w.heap.size + 3 := by rw [← hW0]; simp
  have hbx : ValAt W0 (w.heap.size + 1 + 1) 0 c := by
    rw [← hW0]
    have h := valAt_new ((w.alloc (.cells #[.int .u8 c.k, .int .i64 c.n, .string c.s, .slice c.la c.ll c.lc, .slice c.oa c.ol c.oc] 28)).alloc (.cells #[.int .i64 0] 3)) c 28
    simp only [World.size_alloc] at h
    exact h
  have hn : Boxed W0 (w.heap.size + 1) 3 (.int .i64 0) := by
    rw [← hW0]
    have h := Boxed.new (w.alloc (.cells #[.int .u8 c.k, .int .i64 c.n, .string c.s, .slice c.la c.ll c.lc, .slice c.oa c.ol c.oc] 28)) 3 (.int .i64 0)
    rw [World.size_alloc] at h
    exact h.alloc _
  rw [hW0]
  clear hW0
  refine wpIn_rangeFunc_ownH (α := Kid w (fun v => VDeep v ∧ v.weight ≤ 4611686018427387904)) rfl (by omega) (gf := 98) (lb := #[.pointer (some ⟨w.heap.size + 1 + 1, 0, none⟩)]) rfl trivial (enters_of Tryd.func98 (by kernel_rfl) rfl)
    (within_stops Fence.wide 2 trivial rfl (by omega) w (fun v => VDeep v ∧ v.weight ≤ 4611686018427387904) (w.heap.size + 1 + 1) c cbd ks W0 w.heap.size (by omega) (by omega) hbx (hks.keep (.of_below_any hB0))) keepAt_t (keepAt_b (by omega) (by omega)) (Below.refl _ _) (fun _ => rfl)
    (fun pre W => (Boxed W (w.heap.size + 1) 3 (.int .i64 ((deepO (pre.map Kid.pair) : Nat) : Int))) ∧ Below w.heap.size w W ∧ W0.heap.size ≤ W.heap.size)
    (fun _ _ _ => False)
    (OwnFrom.and (Own.from (boxed_own _ _ _) _) (OwnFrom.and (ownFrom_below (Nat.le_refl _) (by omega)) (fun _ _ _ _ hs hg _ => Nat.le_trans hs hg.size)))
    (fun _ _ _ _ _ hs _ _ => hs)
    ⟨by simp only [List.map_nil, deepO]; exact hn, hB0, Nat.le_refl _⟩
    (fun x a' W => ∃ Bx, W0.heap.size ≤ Bx ∧ ValAt W Bx 0 x.kv ∧ a' = { tmps := #[.agg #[.int .u8 c.k, .int .i64 c.n, .string c.s, .slice c.la c.ll c.lc, .slice c.oa c.ol c.oc], .pointer (some ⟨w.heap.size, 0, none⟩), .int .i64 0, .pointer (some ⟨w.heap.size + 1, 0, none⟩), undef, .pointer (some ⟨Bx, 0, none⟩), .agg #[.int .u8 c.k, .int .i64 c.n, .string c.s, .slice c.la c.ll c.lc, .slice c.oa c.ol c.oc], .func (.func 98) #[] #[.pointer (some ⟨w.heap.size + 1 + 1, 0, none⟩)], .string x.kk, .agg #[.int .u8 x.kv.k, .int .i64 x.kv.n, .string x.kv.s, .slice x.kv.la x.kv.ll x.kv.lc, .slice x.kv.oa x.kv.ol x.kv.oc], undef, undef, undef, undef, undef, undef], defers := [] })
    (fun x a' _ X Y row hs hg hr => by
      obtain ⟨Bx, h1, h2, h3⟩ := hs
      exact ⟨Bx, h1, ValAt.own (β := Unit) Bx 0 (fun _ => x.kv) () X Y row h2 hg (fun r e => (hr r e).2), h3⟩)
    ?assign ?body ?done ?stop
  case assign =>
    rintro l pre x W K ⟨bS1, hB1, hz1⟩ hK
    dsimp only [Kid.encs]
    gi_wp2
    exact hK _ _ ((KeepsOthers.alloc _ _).from _) (KeepAt.alloc W _ (by omega) (by omega)) ⟨bS1.alloc _, hB1.alloc hB1.size _, by simp; omega⟩ ⟨W.heap.size, hz1, valAt_new W x.kv _, rfl⟩
  case body =>
    rintro l pre x a' W hl _ ⟨bS1, hB1, hz1⟩ ⟨Bx, hBx, vX, rfl⟩ hlt
    have cS := bS1.cell
    have fS := bS1.frozen
    have r0 : W.cell? ⟨Bx, 0, none⟩ = some (.int .u8 x.kv.k) := vX.c0
    have r1 : W.cell? ⟨Bx, 1, none⟩ = some (.int .i64 x.kv.n) := vX.c1
    have r2 : W.cell? ⟨Bx, 2, none⟩ = some (.string x.kv.s) := vX.c2
    have r3 : W.cell? ⟨Bx, 3, none⟩ = some (.slice x.kv.la x.kv.ll x.kv.lc) := vX.c3
    have r4 : W.cell? ⟨Bx, 4, none⟩ = some (.slice x.kv.oa x.kv.ol x.kv.oc) := vX.c4
    have hmx : Tryd.prog.follows .mixedOrders = true := by kernel_rfl
    have hcal := fun (W' : World) (h : Below w.heap.size w W') => x.p.1 x.p.2 W' x.kv (x.is.later_ h)
    have HC := Lib.hid hcal
    clear hcal vX
    have hd1 := V.deep_lt x.v
    have hd2 := x.p.2
    have e1 : IntKind.i64.wrap ((x.v.deep : Int) + 1) = (x.v.deep : Int) + 1 := IntWalk.i64_in _ (by omega)
    gi_wp2
    gi_region_with_o (refine ⟨trivial, ?_⟩; gi_at_call 73; refine (CallsIn.inRound l (callsIn_wide.2 (HC.out _ hB1.drew))).mono ?_; rintro e w' ⟨rfl, hb⟩; have cS' := (hb.cell (p := ⟨w.heap.size + 1, 0, none⟩) (by exact bS1.lt)).trans cS; have fS' := (hb.frozen (p := ⟨w.heap.size + 1, 0, none⟩) (by exact bS1.lt)).trans fS)
    all_goals gi_wp2
    all_goals
      have hb' := (Below.refl W.heap.size W).drew.trans hb
      have hbx' : Boxed w' (w.heap.size + 1) 3 _ := (hb'.block _ bS1.lt).trans bS1
      exact ⟨((keepsOthers_below hb').trans (KeepsOthers.setCell _ _ _)).from _, (KeepAt.of_below hb' (by omega) (by omega)).trans (KeepAt.setCell _ _ (by simp) (by simp)), by first | (rw [num_eq (show ((deepO ((pre ++ [x]).map Kid.pair) : Nat) : Int) = ((deepO (pre.map Kid.pair) : Nat) : Int) from by rw [kids_deep]; omega)]; exact hbx'.set _) | (rw [num_eq (show ((deepO ((pre ++ [x]).map Kid.pair) : Nat) : Int) = (x.v.deep : Int) + 1 from by rw [kids_deep]; omega)]; exact hbx'.set _), (hB1.on hb' hB1.size).setCell (by simp) _, by have := hb'.size; simp [World.setCell]; omega⟩
  case done =>
    rintro D ys W hD rfl ⟨bS, hB, hz1⟩ hK
    have cS := bS.cell
    gi_wp2
    refine ⟨by simp, .inl ⟨_, _, rfl, run_takeDeferred hK, ?_⟩⟩
    refine ⟨_, results_tmp (t := 2) rfl _ _ _, ?_, hB.trans ((Below.refl _ _).grown (grownBy_putObj' _ D _) hB.size (fun k e => by cases e; omega))⟩
    show Ending.returned (.int .i64 ((deepO (pairs l o) : Nat) : Int)) = _
    exact ret_int (by simp only [pairs_deep, V.deep])
  case stop =>
    rintro D c' pre W _ _ h _
    exact h.elim
end Go.Proofs.YtcfbnmobfcabiaaDoor
namespace Go.Proofs.YtcfbnmobfcabiaaDoor
open Go.RowKit

theorem ginfoV : (Tryd.prog.info? 28).map (fun i => (i.zero, i.size, i.bytes)) = some (some (.agg #[.int .u8 0, .int .i64 0, .string { data := #[] }, .slice none 0 0, .slice none 0 0]), 5, 80) := by kernel_rfl
theorem RV_some {w : World} {rb : Nat} {d : Int} {x : V} {r : List UInt8} {e : Ending} {w' : World} (h : RVPost w rb d (some (x, r)) e w') : ∃ c : VC, e = .returned (.agg #[.int .u8 c.k, .int .i64 c.n, .string c.s, .slice c.la c.ll c.lc, .slice c.oa c.ol c.oc]) ∧ RStep w w' rb ∧ IsVal (only (fun b => w.heap.size ≤ b) w') w'.heap.size x c ∧ Rdr w' rb r d := by
  obtain ⟨h1, ⟨c, h2, h3⟩, h4⟩ := h
  exact ⟨c, h2, h1, h3, h4⟩

set_option maxHeartbeats 8000000 in
set_option maxRecDepth 100000 in
theorem rv_list_any (w : World) (rb : Nat) (bs : List UInt8) (d : Int) (h : Rdr w rb bs d) (hd0 : 0 ≤ d) (hd : d ≤ 17) {kd n : Nat} {r q : List UInt8} (hr : rdN 1 bs = some (kd, r)) (hk : kd = 4) (hm : rdM 4 r = some (n, q)) (k : Nat) (IH : ∀ (W : World) (bs : List UInt8), Rdr W rb bs (d + 1) → Calls Tryd.prog 28 #[.pointer (some ⟨rb, 0, none⟩)] W (RVPost W rb (d + 1) (rdV k bs))) {out : Option (List V × List UInt8)} (hl : rdL (fun x => rdV k x) n q = out) :
    Calls Tryd.prog 28 #[.pointer (some ⟨rb, 0, none⟩)] w (RVPost w rb d (out.bind fun p => some (.mk kd 0 .empty p.1 [], p.2))) := by
  obtain ⟨i0, hi0, hz0, hz1, hz2⟩ := info_parts ginfoV
  have hk1 : kd < 256 := rdN_lt hr
  have hn4 : n < 4294967296 := Nat.lt_of_lt_of_le (rdN_lt (rdM_some hm).1) (by decide)
  have IHH := Lib.hid IH
  have HL := Lib.hid hl
  clear IH hl
  have hmf : ∀ (fn : Fn) (first cap : Array Value) (w : World), (Instr.makeFunc fn first cap).run Tryd.prog w = .ok (.func fn first cap) w := fun _ _ _ _ => rfl
  have HB := Lib.hid (fun t1 t2 => RB.start (d' := d + 1) h t1 t2)
  have h1 := h.deep
  have h2 := h.f1
  have hlt := h.lt
  clear h
  have f1 : ((kd : Int) == 1) = false := by subst hk; rfl
  have f2 : ((kd : Int) == 2) = false := by subst hk; rfl
  have f3 : ((kd : Int) == 3) = false := by subst hk; rfl
  have f4 : ((kd : Int) == 4) = true := by subst hk; rfl
  have f5 : ((kd : Int) == 5) = false := by subst hk; rfl
  clear hk
  go_enter_defers Tryd.func28, Tryd.ntmps28
  go_wp2_with (first | (go_at_call 46; (with_reducible refine (takeU81_some _ rb bs (d + 1) (HB.out _ _).rdr hr).mono ?_); rintro e w1 ⟨rfl, hR, hS⟩; have B1 := (HB.out _ _).next hS hR; have r0 := B1.res.c0; have r1 := B1.res.c1; have r2 := B1.res.c2; have r3 := B1.res.c3; have r4 := B1.res.c4; have g0 := B1.frz 0 (by omega); have g1 := B1.frz 1 (by omega); have g2 := B1.frz 2 (by omega); have g3 := B1.frz 3 (by omega); have g4 := B1.frz 4 (by omega); have hb0 := B1.box; have hsz := B1.size; have zs1 : w.heap.size + 1 < w1.heap.size := (by omega); have zs0 : w.heap.size < w1.heap.size := (by omega); have hlt1 := B1.lt) | (go_at_call 48; (with_reducible refine (many4_some _ rb r (d + 1) (B1.behind ((Below.refl _ _).alloc (Nat.le_refl _) _)).rdr hm).mono ?_); rintro e w2 ⟨rfl, hR2, hS2⟩; have B2 := (B1.behind ((Below.refl _ _).alloc (Nat.le_refl _) _)).next hS2 hR2; have VB2 := (VB.start w1 ⟨kd, 0, .empty, none, 0, 0, none, 0, 0⟩ 28).next hS2 (by omega)))
  have LI0 : LI w w2 rb w1.heap.size d k kd q 0 none 0 0 [] [] q := ⟨rfl, rfl, rfl, B2, VB2, Row.nil _ _ _ _ _, hsz⟩
  obtain ⟨vb, hvb⟩ : ∃ vb, w1.heap.size = vb := ⟨_, rfl⟩
  rw [hvb] at LI0 hsz zs0 zs1 ⊢
  clear B1 B2 VB2 r0 r1 r3 r4 g0 g1 g2 g3 g4 hb0 hvb
  go_loopw [40] (fun i wr => ∃ (j : Nat) (a : Option Addr) (m c : Nat) (xs : List V) (cs : List VC) (rj : List UInt8), j ≤ n ∧ i = .int .i64 j ∧ LI w wr rb vb d k kd q j a m c xs cs rj) (fun i _ => n - (intOf i).toNat)
  case atStart => exact ⟨0, none, 0, 0, [], [], q, Nat.zero_le _, rfl, LI0⟩
  case round =>
    clear LI0
    obtain ⟨j, a, m, c, xs, cs, rj, hj, rfl, L⟩ := hrel
    have y0 := L.vb_.at_.c0; have y1 := L.vb_.at_.c1; have y2 := L.vb_.at_.c2; have y3 := L.vb_.at_.c3; have y4 := L.vb_.at_.c4
    have p3 := L.vb_.fr 3
    have hb0 := L.box.box
    have hvlt := L.vb_.lt
    by_cases hlt2 : j < n
    · have hlo := L.lo
      have hbl := L.box.lt
      cases hx : rdV k rj with
      | none => 
        have hout : out = none := by
          rw [← HL.out]
          exact rdL_none (f := fun x => rdV k x) (i := j + 1) (by rw [rdL, L.rd]; simp only [Option.bind_some, hx]; rfl) (by omega)
        subst hout
        have HC : Hid (Calls Tryd.prog 28 #[.pointer (some ⟨rb, 0, none⟩)] wr.drew fun e w' => RStep wr.drew w' rb ∧ e = .panicked [short] ∧ ∃ bs', Rdr w' rb bs' (d + 1)) :=
          (IHH.out wr.drew rj (L.box.behind (drew_below wr)).rdr).mono fun e w' h => by rw [hx] at h; exact h
        have HO : Hid (∀ W, RStep wr.drew W rb → W.ownsRow (vb + 1) 28 5 (.slice a m c) j (cs.flatMap vcells) ∧ W.cell? ⟨vb, 3, none⟩ = some (.slice a m c) ∧ W.frozen? ⟨vb, 3, none⟩ = false ∧ vb < W.heap.size) := by
          intro W hW
          have ho := ((L.row.later (PV.closed xs cs) (.of_below rb (drew_below wr)) (by omega)).later (PV.closed xs cs) hW (by omega)).own
          rw [L.len] at ho
          exact ⟨ho, hW.cell (w := wr.drew) y3 (by omega), (hW.frozen (w := wr.drew) hvlt (by omega)).trans p3, Nat.lt_of_lt_of_le hvlt hW.size⟩
        have hne : (Value.slice a m c).ownBlock ≠ some vb := fun e => by have := (L.row.lt _ e).1; omega
        have LL := Lib.hid L
        clear hx L
        go_wp2_with fail
        refine wp_region_panicP [{ target := .fn (.func 56) #[.pointer (some ⟨w.heap.size, 0, none⟩)], args := #[] }] (fun w' => RStep wr.drew w' rb ∧ ∃ bs', Rdr w' rb bs' (d + 1)) (fun a w' hD hw => ?_) ?_
        · obtain ⟨hS4, bs4, hR4⟩ := hw
          have := ((LL.out.box.behind (drew_below wr)).next hS4 hR4).panic (tmps := a.tmps) (by omega) (by omega)
          rw [← hD] at this
          exact this
        go_region_law
          (first
            | (go_simp; go_at_call 28; refine (HC.out).mono ?_; intro e w4 hP; by_cases hv : e = .returned (.agg #[.int .u8 0, .int .i64 0, .string { data := #[] }, .slice none 0 0, .slice none 0 0]); rotate_left; (focus (obtain ⟨hS4, he, hR4⟩ := hP; subst he; exact ⟨rfl, rfl, hS4, hR4⟩)); obtain ⟨hS4, he, hR4⟩ := hP; rw [hv] at he; have HF := Lib.hid he; clear he; subst hv; obtain ⟨ho4, hc4, hf4, hv4⟩ := HO.out w4 hS4)
            | (refine step_append_lies _ (by rfl) _ _ _ (by rfl) (vb + 1) 28 i0 _ 5 80 (by kernel_rfl) hi0 hz0 hz1 hz2 rfl (by omega) (.slice a m c) j (cs.flatMap vcells) (by rfl) (ho4.alloc _) ⟨w4.heap.size, 0, none⟩ 1 1 (vcells vzero) (by rfl) (by rfl) (World.news_of_block (t := 28) (fr := (0, 0)) (heap_alloc_new w4 _)) (by simp [vcells, Value.oneCell']) (by omega) (by unfold maxLen; omega) (by omega) (by simp; omega) (w4.heap.size + 1) (by simp) ?_; intro g cap w5 hown5 hgrow5 hat5 hlt5; have hc5 : w5.cell? ⟨vb, 3, none⟩ = some (.slice a m c) := (hgrow5.cell_far ⟨vb, 3, none⟩ (by simp; omega) (Ne.symm hne)).trans (keep_cell ((Below.refl _ _).alloc (Nat.le_refl _) _) hc4 hv4); have hf5 : w5.frozen? ⟨vb, 3, none⟩ = false := (hgrow5.frozen_far ⟨vb, 3, none⟩ (by simp; omega) (Ne.symm hne)).trans ((((Below.refl _ _).alloc (Nat.le_refl _) _ : Below w4.heap.size w4 (w4.alloc _)).frozen (p := ⟨vb, 3, none⟩) hv4).trans hf4)))
        all_goals cases HF.out
      | some xr =>
      obtain ⟨x, r3⟩ := xr
      have HX := Lib.hid hx
      have HC : Hid (Calls Tryd.prog 28 #[.pointer (some ⟨rb, 0, none⟩)] wr.drew fun e w' => ∃ c : VC, e = .returned (.agg #[.int .u8 c.k, .int .i64 c.n, .string c.s, .slice c.la c.ll c.lc, .slice c.oa c.ol c.oc]) ∧ RStep wr.drew w' rb ∧ IsVal (only (fun b => wr.drew.heap.size ≤ b) w') w'.heap.size x c ∧ Rdr w' rb r3 (d + 1)) :=
        (IHH.out wr.drew rj (L.box.behind (drew_below wr)).rdr).mono fun e w' h => RV_some (by rw [hx] at h; exact h)
      have HO : Hid (∀ W, RStep wr.drew W rb → W.ownsRow (vb + 1) 28 5 (.slice a m c) j (cs.flatMap vcells) ∧ W.cell? ⟨vb, 3, none⟩ = some (.slice a m c) ∧ W.frozen? ⟨vb, 3, none⟩ = false ∧ vb < W.heap.size) := by
        intro W hW
        have ho := ((L.row.later (PV.closed xs cs) (.of_below rb (drew_below wr)) (by omega)).later (PV.closed xs cs) hW (by omega)).own
        rw [L.len] at ho
        exact ⟨ho, hW.cell (w := wr.drew) y3 (by omega), (hW.frozen (w := wr.drew) hvlt (by omega)).trans p3, Nat.lt_of_lt_of_le hvlt hW.size⟩
      have hne : (Value.slice a m c).ownBlock ≠ some vb := fun e => by have := (L.row.lt _ e).1; omega
      have LL := Lib.hid L
      clear hx L
      go_wp2_with fail
      refine wp_region_noPanic ?_
      go_region_law
        (first
          | (go_simp; go_at_call 28; refine (HC.out).mono ?_; rintro e w4 ⟨cx, rfl, hS4, hI4, hR4⟩; obtain ⟨ho4, hc4, hf4, hv4⟩ := HO.out w4 hS4)
          | (refine step_append_lies _ (by rfl) _ _ _ (by rfl) (vb + 1) 28 i0 _ 5 80 (by kernel_rfl) hi0 hz0 hz1 hz2 rfl (by omega) (.slice a m c) j (cs.flatMap vcells) (by rfl) (ho4.alloc _) ⟨w4.heap.size, 0, none⟩ 1 1 (vcells cx) (by rfl) (by rfl) (World.news_of_block (t := 28) (fr := (0, 0)) (heap_alloc_new w4 _)) (by simp [vcells, Value.oneCell']) (by omega) (by unfold maxLen; omega) (by omega) (by simp; omega) (w4.heap.size + 1) (by simp) ?_; intro g cap w5 hown5 hgrow5 hat5 hlt5; have hc5 : w5.cell? ⟨vb, 3, none⟩ = some (.slice a m c) := (hgrow5.cell_far ⟨vb, 3, none⟩ (by simp; omega) (Ne.symm hne)).trans (keep_cell ((Below.refl _ _).alloc (Nat.le_refl _) _) hc4 hv4); have hf5 : w5.frozen? ⟨vb, 3, none⟩ = false := (hgrow5.frozen_far ⟨vb, 3, none⟩ (by simp; omega) (Ne.symm hne)).trans ((((Below.refl _ _).alloc (Nat.le_refl _) _ : Below w4.heap.size w4 (w4.alloc _)).frozen (p := ⟨vb, 3, none⟩) hv4).trans hf4)))
      all_goals
        refine NoPanic.normal ?_
        go_wp2_with fail
        go_roundw
        case rel => exact ⟨j + 1, some ⟨g, 0, none⟩, j + 1, cap, xs ++ [x], cs ++ [cx], r3, by omega, by go_num, LL.out.round HX.out hS4 hI4 hR4 hown5 hgrow5 hat5⟩
        case measure => simp [intOf]; omega
    · have hjn : j = n := by omega
      subst hjn
      obtain rfl : out = some (xs, rj) := by rw [← HL.out, L.rd]
      have r0 := L.box.res.c0; have r1 := L.box.res.c1; have r2 := L.box.res.c2; have r3 := L.box.res.c3; have r4 := L.box.res.c4
      have g0 := L.box.frz 0 (by omega); have g1 := L.box.frz 1 (by omega); have g2 := L.box.frz 2 (by omega); have g3 := L.box.frz 3 (by omega); have g4 := L.box.frz 4 (by omega)
      have hx := L.row.val (lo := vb + 1) (by rw [L.len, L.cen]) (Nat.le_refl _) kd (by omega) (by omega) (by rw [L.len]; omega)
      have HB2 := Lib.hid L.box
      have HX := Lib.hid hx
      clear L hx
      go_wp2_with fail
      exact leave_stored (base := vb + 1) HB2.out ⟨kd, 0, .empty, a, m, c, none, 0, 0⟩ HX.out (by omega) (by omega) (by omega) rfl
end Go.Proofs.YtcfbnmobfcabiaaDoor
namespace Go.Proofs.YtcfbnmobfcabiaaDoor
open Go.RowKit
theorem ginfoFR : (Tryd.prog.info? 78).map (fun i => (i.zero, i.size, i.bytes)) = some (some (.agg #[.string { data := #[] }, .int .u8 0, .int .i64 0, .string { data := #[] }, .slice none 0 0, .slice none 0 0]), 6, 96) := by kernel_rfl
end Go.Proofs.YtcfbnmobfcabiaaDoor
namespace Go.Proofs.YtcfbnmobfcabiaaDoor
open Go.RowKit
/-- At the head of a round of the object's loop; rc: what is left now. -/
structure LF (w wr : World) (rb vb : Nat) (d : Int) (k : Nat) (kd : Nat) (q : List UInt8) (j : Nat) (a : Option Addr) (m c : Nat) (xs : List (ByteArray × V)) (cs : List (ByteArray × VC)) (rj rc : List UInt8) : Prop where
  rd : rdL (fun x => (rdT x).bind fun y => (rdV k y.2).bind fun z => some ((y.1, z.1), z.2)) j q = some (xs, rj)
  len : xs.length = j
  cen : cs.length = j
  box : RB w wr rb rc (d + 1) vzero
  vb_ : VB wr vb ⟨kd, 0, .empty, none, 0, 0, a, m, c⟩
  row : RowF wr (vb + 1) (.slice a m c) xs cs
  lo : w.heap.size + 2 ≤ vb
theorem LF.round {w wr w4 w5 : World} {rb vb : Nat} {d : Int} {k kd : Nat} {q : List UInt8} {j : Nat} {a : Option Addr} {m c : Nat} {xs : List (ByteArray × V)} {cs : List (ByteArray × VC)} {rj r3 r2 : List UInt8} {sk : ByteArray} {x : V} {cx : VC} {g cap : Nat} {t : TypeId}
    (h : LF w wr rb vb d k kd q j a m c xs cs rj r3) (ht : rdT rj = some (sk, r3)) (hx : rdV k r3 = some (x, r2)) (hS : RStep wr.drew w4 rb) (hI : IsVal (only (fun b => wr.drew.heap.size ≤ b) w4) w4.heap.size x cx) (hR : Rdr w4 rb r2 (d + 1))
    (hown : w5.ownsRow (vb + 1) 78 6 (.slice (some ⟨g, 0, none⟩) (j + 1) cap) (j + 1) (cs.flatMap fcells ++ fcells (sk, cx))) (hg : (w4.alloc (.cells #[.string sk, .int .u8 cx.k, .int .i64 cx.n, .string cx.s, .slice cx.la cx.ll cx.lc, .slice cx.oa cx.ol cx.oc] t)).grownBy w5 (Value.slice a m c).ownBlock)
    (hat : (Value.slice a m c).ownBlock = some g ∨ g = w4.heap.size + 1) :
    LF w (w5.setCell ⟨vb, 4, none⟩ (.slice (some ⟨g, 0, none⟩) (j + 1) cap)) rb vb d k kd q (j + 1) (some ⟨g, 0, none⟩) (j + 1) cap (xs ++ [(sk, x)]) (cs ++ [(sk, cx)]) r2 r2 := by
  have hlo := h.lo
  have hlt := h.box.lt
  have hdz : wr.drew.heap.size = wr.heap.size := rfl
  have hb1 := drew_below wr
  have hrow := (h.row.later (PF.closed xs cs) (.of_below rb hb1) (by omega)).later (PF.closed xs cs) hS (by omega)
  have hrlt : ∀ b, (Value.slice a m c).ownBlock = some b → vb + 1 ≤ b ∧ b < wr.heap.size := h.row.lt
  have hba : Below w4.heap.size w4 (w4.alloc (.cells #[.string sk, .int .u8 cx.k, .int .i64 cx.n, .string cx.s, .slice cx.la cx.ll cx.lc, .slice cx.oa cx.ol cx.oc] t)) := (Below.refl _ _).alloc (Nat.le_refl _) _
  have hsz4 : wr.heap.size ≤ w4.heap.size := hS.size
  have hvlt := h.vb_.lt
  have hgb : Below (vb + 1) (w4.alloc (.cells #[.string sk, .int .u8 cx.k, .int .i64 cx.n, .string cx.s, .slice cx.la cx.ll cx.lc, .slice cx.oa cx.ol cx.oc] t)) w5 := grown_below hg (fun b hb => (hrlt b hb).1) (by simp; omega)
  have hb45 : Below (vb + 1) w4 w5 := (hba.mono (by omega)).trans hgb
  obtain ⟨s1, s2⟩ := PF.snoc (l := xs) (cs := cs) (by rw [h.len, h.cen]) sk (rdT_size ht) x cx
  have hnew : PF (xs ++ [(sk, x)]) (cs ++ [(sk, cx)]) (only (Free (vb + 1) (.slice a m c)) w4) w4.heap.size xs.length := s1 _ _ (hI.sub (shows_step fun b hb _ => ⟨⟨by rw [hdz] at hb; omega, fun e => by have := (hrlt b e.symm).2; rw [hdz] at hb; omega⟩, rfl⟩))
  have hpush := Row.push (PF.closed (xs ++ [(sk, x)]) (cs ++ [(sk, cx)])) hrow hba hg (u' := .slice (some ⟨g, 0, none⟩) (j + 1) cap) (news := fcells (sk, cx)) (by rw [h.len]; exact hown) (by
    rcases hat with e | e
    · left; rw [e]; rfl
    · right; intro b hb; have : g = b := by simpa [Value.ownBlock] using hb
      omega) hnew s2
  have hbox := ((h.box.behind hb1).next hS hR).below (hb45.mono (by omega))
  have hvb := ((h.vb_.keep hb1 hvlt).next hS (by omega)).keep hb45 (by omega)
  refine ⟨?_, by simp [h.len], by simp [h.cen], hbox.set (by omega), hvb.setO _ _ _, ?_, hlo⟩
  · rw [rdL, h.rd]; simp only [Option.bind_some, ht, hx]
  · have hr2 : RowF w5 (vb + 1) (.slice (some ⟨g, 0, none⟩) (j + 1) cap) (xs ++ [(sk, x)]) (cs ++ [(sk, cx)]) := by
      show Row _ _ _ _ _ _ _ _
      rw [flat_snoc, List.length_append, List.length_singleton]
      exact hpush
    exact hr2.set (PF.closed _ _) (by omega)

theorem LF.text {w wr w3 : World} {rb vb : Nat} {d : Int} {k kd : Nat} {q : List UInt8} {j : Nat} {a : Option Addr} {m c : Nat} {xs : List (ByteArray × V)} {cs : List (ByteArray × VC)} {rj rc r3 : List UInt8} (h : LF w wr rb vb d k kd q j a m c xs cs rj rc) (hS : RStep wr w3 rb) (hR : Rdr w3 rb r3 (d + 1)) : LF w w3 rb vb d k kd q j a m c xs cs rj r3 := by
  have hlo := h.lo
  have hlt := h.box.lt
  exact ⟨h.rd, h.len, h.cen, h.box.next hS hR, h.vb_.next hS (by omega), h.row.later (PF.closed xs cs) hS (by omega), hlo⟩
end Go.Proofs.YtcfbnmobfcabiaaDoor
namespace Go.Proofs.YtcfbnmobfcabiaaDoor
open Go.RowKit

theorem ginfoF : (Tryd.prog.info? 78).map (fun i => (i.zero, i.size, i.bytes)) = some (some (.agg #[.string { data := #[] }, .int .u8 0, .int .i64 0, .string { data := #[] }, .slice none 0 0, .slice none 0 0]), 6, 96) := by kernel_rfl

set_option maxHeartbeats 8000000 in
set_option maxRecDepth 100000 in
theorem rv_obj_any (w : World) (rb : Nat) (bs : List UInt8) (d : Int) (h : Rdr w rb bs d) (hd0 : 0 ≤ d) (hd : d ≤ 17) {kd n : Nat} {r q : List UInt8} (hr : rdN 1 bs = some (kd, r)) (hk : kd = 5) (hm : rdM 4 r = some (n, q)) (k : Nat) (IH : ∀ (W : World) (bs : List UInt8), Rdr W rb bs (d + 1) → Calls Tryd.prog 28 #[.pointer (some ⟨rb, 0, none⟩)] W (RVPost W rb (d + 1) (rdV k bs))) {out : Option (List (ByteArray × V) × List UInt8)} (hl : rdL (fun x => (rdT x).bind fun y => (rdV k y.2).bind fun z => some ((y.1, z.1), z.2)) n q = out) :
    Calls Tryd.prog 28 #[.pointer (some ⟨rb, 0, none⟩)] w (RVPost w rb d (out.bind fun p => some (.mk kd 0 .empty [] p.1, p.2))) := by
  obtain ⟨i0, hi0, hz0, hz1, hz2⟩ := info_parts ginfoF
  have hk1 : kd < 256 := rdN_lt hr
  have hn4 : n < 4294967296 := Nat.lt_of_lt_of_le (rdN_lt (rdM_some hm).1) (by decide)
  have IHH := Lib.hid IH
  have HL := Lib.hid hl
  clear IH hl
  have hmf : ∀ (fn : Fn) (first cap : Array Value) (w : World), (Instr.makeFunc fn first cap).run Tryd.prog w = .ok (.func fn first cap) w := fun _ _ _ _ => rfl
  have HB := Lib.hid (fun t1 t2 => RB.start (d' := d + 1) h t1 t2)
  have h1 := h.deep
  have h2 := h.f1
  have hlt := h.lt
  clear h
  have f1 : ((kd : Int) == 1) = false := by subst hk; rfl
  have f2 : ((kd : Int) == 2) = false := by subst hk; rfl
  have f3 : ((kd : Int) == 3) = false := by subst hk; rfl
  have f4 : ((kd : Int) == 4) = false := by subst hk; rfl
  have f5 : ((kd : Int) == 5) = true := by subst hk; rfl
  clear hk
  go_enter_defers Tryd.func28, Tryd.ntmps28
  go_wp2_with (first | (go_at_call 46; (with_reducible refine (takeU81_some _ rb bs (d + 1) (HB.out _ _).rdr hr).mono ?_); rintro e w1 ⟨rfl, hR, hS⟩; have B1 := (HB.out _ _).next hS hR; have r0 := B1.res.c0; have r1 := B1.res.c1; have r2 := B1.res.c2; have r3 := B1.res.c3; have r4 := B1.res.c4; have g0 := B1.frz 0 (by omega); have g1 := B1.frz 1 (by omega); have g2 := B1.frz 2 (by omega); have g3 := B1.frz 3 (by omega); have g4 := B1.frz 4 (by omega); have hb0 := B1.box; have hsz := B1.size; have zs1 : w.heap.size + 1 < w1.heap.size := (by omega); have zs0 : w.heap.size < w1.heap.size := (by omega); have hlt1 := B1.lt) | (go_at_call 48; (with_reducible refine (many4_some _ rb r (d + 1) (B1.behind ((Below.refl _ _).alloc (Nat.le_refl _) _)).rdr hm).mono ?_); rintro e w2 ⟨rfl, hR2, hS2⟩; have B2 := (B1.behind ((Below.refl _ _).alloc (Nat.le_refl _) _)).next hS2 hR2; have VB2 := (VB.start w1 ⟨kd, 0, .empty, none, 0, 0, none, 0, 0⟩ 28).next hS2 (by omega)))
  have LI0 : LF w w2 rb w1.heap.size d k kd q 0 none 0 0 [] [] q q := ⟨rfl, rfl, rfl, B2, VB2, Row.nil _ _ _ _ _, hsz⟩
  obtain ⟨vb, hvb⟩ : ∃ vb, w1.heap.size = vb := ⟨_, rfl⟩
  rw [hvb] at LI0 hsz zs0 zs1 ⊢
  clear B1 B2 VB2 r0 r1 r3 r4 g0 g1 g2 g3 g4 hb0 hvb
  go_loopw [54] (fun i wr => ∃ (j : Nat) (a : Option Addr) (m c : Nat) (xs : List (ByteArray × V)) (cs : List (ByteArray × VC)) (rj : List UInt8), j ≤ n ∧ i = .int .i64 j ∧ LF w wr rb vb d k kd q j a m c xs cs rj rj) (fun i _ => n - (intOf i).toNat)
  case atStart => exact ⟨0, none, 0, 0, [], [], q, Nat.zero_le _, rfl, LI0⟩
  case round =>
    clear LI0
    obtain ⟨j, a, m, c, xs, cs, rj, hj, rfl, L⟩ := hrel
    have y0 := L.vb_.at_.c0; have y1 := L.vb_.at_.c1; have y2 := L.vb_.at_.c2; have y3 := L.vb_.at_.c3; have y4 := L.vb_.at_.c4
    have p3 := L.vb_.fr 4
    have hb0 := L.box.box
    have hvlt := L.vb_.lt
    by_cases hlt2 : j < n
    · have hlo := L.lo
      have hbl := L.box.lt
      cases ht : rdT rj with
      | none =>
        have hout : out = none := by
          rw [← HL.out]
          exact rdL_none (f := (fun x => (rdT x).bind fun y => (rdV k y.2).bind fun z => some ((y.1, z.1), z.2))) (i := j + 1) (by rw [rdL, L.rd]; simp only [Option.bind_some, ht]; rfl) (by omega)
        subst hout
        have HTX := Lib.hid (fun W hR => rText_none W rb rj (d + 1) hR ht)
        have LL := Lib.hid L
        clear ht L
        go_wp2_with (go_at_call 58; (with_reducible refine (HTX.out _ LL.out.box.rdr).mono ?_); rintro e w3 ⟨rfl, hS3, bs3, hR3⟩)
        exact (LL.out.box.next hS3 hR3).panic (by omega) (by omega)
      | some sr =>
      obtain ⟨sk, r3⟩ := sr
      have HTT := Lib.hid ht
      have LL0 := Lib.hid L
      clear ht L
      go_wp2_with (go_at_call 58; (with_reducible refine (rText_some _ rb rj (d + 1) LL0.out.box.rdr HTT.out).mono ?_); rintro e w3 ⟨rfl, hR3, hS3⟩; have L := LL0.out.text hS3 hR3; have y0 := L.vb_.at_.c0; have y1 := L.vb_.at_.c1; have y2 := L.vb_.at_.c2; have y3 := L.vb_.at_.c3; have y4 := L.vb_.at_.c4; have p3 := L.vb_.fr 4; have hb0 := L.box.box; have hvlt := L.vb_.lt)
      have ht := HTT.out
      cases hx : rdV k r3 with
      | none => 
        have hout : out = none := by
          rw [← HL.out]
          exact rdL_none (f := fun x => (rdT x).bind fun y => (rdV k y.2).bind fun z => some ((y.1, z.1), z.2)) (i := j + 1) (by rw [rdL, L.rd]; simp only [Option.bind_some, ht, hx]; rfl) (by omega)
        subst hout
        have HC : Hid (Calls Tryd.prog 28 #[.pointer (some ⟨rb, 0, none⟩)] w3.drew fun e w' => RStep w3.drew w' rb ∧ e = .panicked [short] ∧ ∃ bs', Rdr w' rb bs' (d + 1)) :=
          (IHH.out w3.drew r3 (L.box.behind (drew_below w3)).rdr).mono fun e w' h => by rw [hx] at h; exact h
        have HO : Hid (∀ W, RStep w3.drew W rb → W.ownsRow (vb + 1) 78 6 (.slice a m c) j (cs.flatMap fcells) ∧ W.cell? ⟨vb, 4, none⟩ = some (.slice a m c) ∧ W.frozen? ⟨vb, 4, none⟩ = false ∧ vb < W.heap.size) := by
          intro W hW
          have ho := ((L.row.later (PF.closed xs cs) (.of_below rb (drew_below w3)) (by omega)).later (PF.closed xs cs) hW (by omega)).own
          rw [L.len] at ho
          exact ⟨ho, hW.cell (w := w3.drew) L.vb_.at_.c4 (by omega), (hW.frozen (w := w3.drew) L.vb_.lt (by omega)).trans (L.vb_.fr 4), Nat.lt_of_lt_of_le L.vb_.lt hW.size⟩
        have hne : (Value.slice a m c).ownBlock ≠ some vb := fun e => by have := (L.row.lt _ e).1; omega
        have LL := Lib.hid L
        clear hx ht L
        refine wp_region_panicP [{ target := .fn (.func 56) #[.pointer (some ⟨w.heap.size, 0, none⟩)], args := #[] }] (fun w' => RStep w3.drew w' rb ∧ ∃ bs', Rdr w' rb bs' (d + 1)) (fun a w' hD hw => ?_) ?_
        · obtain ⟨hS4, bs4, hR4⟩ := hw
          have := ((LL.out.box.behind (drew_below w3)).next hS4 hR4).panic (tmps := a.tmps) (by omega) (by omega)
          rw [← hD] at this
          exact this
        go_region_law
          (first
            | (go_simp; go_at_call 28; refine (HC.out).mono ?_; intro e w4 hP; by_cases hv : e = .returned (.agg #[.int .u8 0, .int .i64 0, .string { data := #[] }, .slice none 0 0, .slice none 0 0]); rotate_left; (focus (obtain ⟨hS4, he, hR4⟩ := hP; subst he; exact ⟨rfl, rfl, hS4, hR4⟩)); obtain ⟨hS4, he, hR4⟩ := hP; rw [hv] at he; have HF := Lib.hid he; clear he; subst hv; obtain ⟨ho4, hc4, hf4, hv4⟩ := HO.out w4 hS4)
            | (refine step_append_lies _ (by rfl) _ _ _ (by rfl) (vb + 1) 78 i0 _ 6 96 (by kernel_rfl) hi0 hz0 hz1 hz2 rfl (by omega) (.slice a m c) j (cs.flatMap fcells) (by rfl) (ho4.alloc _) ⟨w4.heap.size, 0, none⟩ 1 1 (fcells (sk, vzero)) (by rfl) (by rfl) (World.news_of_block (t := 78) (fr := (0, 0)) (heap_alloc_new w4 _)) (by simp [fcells, Value.oneCell']) (by omega) (by unfold maxLen; omega) (by omega) (by simp; omega) (w4.heap.size + 1) (by simp) ?_; intro g cap w5 hown5 hgrow5 hat5 hlt5; have hc5 : w5.cell? ⟨vb, 4, none⟩ = some (.slice a m c) := (hgrow5.cell_far ⟨vb, 4, none⟩ (by simp; omega) (Ne.symm hne)).trans (keep_cell ((Below.refl _ _).alloc (Nat.le_refl _) _) hc4 hv4); have hf5 : w5.frozen? ⟨vb, 4, none⟩ = false := (hgrow5.frozen_far ⟨vb, 4, none⟩ (by simp; omega) (Ne.symm hne)).trans ((((Below.refl _ _).alloc (Nat.le_refl _) _ : Below w4.heap.size w4 (w4.alloc _)).frozen (p := ⟨vb, 4, none⟩) hv4).trans hf4)))
        all_goals cases HF.out
      | some xr =>
      obtain ⟨x, r4⟩ := xr
      have HX := Lib.hid hx
      have HC : Hid (Calls Tryd.prog 28 #[.pointer (some ⟨rb, 0, none⟩)] w3.drew fun e w' => ∃ c : VC, e = .returned (.agg #[.int .u8 c.k, .int .i64 c.n, .string c.s, .slice c.la c.ll c.lc, .slice c.oa c.ol c.oc]) ∧ RStep w3.drew w' rb ∧ IsVal (only (fun b => w3.drew.heap.size ≤ b) w') w'.heap.size x c ∧ Rdr w' rb r4 (d + 1)) :=
        (IHH.out w3.drew r3 (L.box.behind (drew_below w3)).rdr).mono fun e w' h => RV_some (by rw [hx] at h; exact h)
      have HO : Hid (∀ W, RStep w3.drew W rb → W.ownsRow (vb + 1) 78 6 (.slice a m c) j (cs.flatMap fcells) ∧ W.cell? ⟨vb, 4, none⟩ = some (.slice a m c) ∧ W.frozen? ⟨vb, 4, none⟩ = false ∧ vb < W.heap.size) := by
        intro W hW
        have ho := ((L.row.later (PF.closed xs cs) (.of_below rb (drew_below w3)) (by omega)).later (PF.closed xs cs) hW (by omega)).own
        rw [L.len] at ho
        exact ⟨ho, hW.cell (w := w3.drew) L.vb_.at_.c4 (by omega), (hW.frozen (w := w3.drew) L.vb_.lt (by omega)).trans (L.vb_.fr 4), Nat.lt_of_lt_of_le L.vb_.lt hW.size⟩
      have hne : (Value.slice a m c).ownBlock ≠ some vb := fun e => by have := (L.row.lt _ e).1; omega
      have LL := Lib.hid L
      clear hx ht L
      refine wp_region_noPanic ?_
      go_region_law
        (first
          | (go_simp; go_at_call 28; refine (HC.out).mono ?_; rintro e w4 ⟨cx, rfl, hS4, hI4, hR4⟩; obtain ⟨ho4, hc4, hf4, hv4⟩ := HO.out w4 hS4)
          | (refine step_append_lies _ (by rfl) _ _ _ (by rfl) (vb + 1) 78 i0 _ 6 96 (by kernel_rfl) hi0 hz0 hz1 hz2 rfl (by omega) (.slice a m c) j (cs.flatMap fcells) (by rfl) (ho4.alloc _) ⟨w4.heap.size, 0, none⟩ 1 1 (fcells (sk, cx)) (by rfl) (by rfl) (World.news_of_block (t := 78) (fr := (0, 0)) (heap_alloc_new w4 _)) (by simp [fcells, Value.oneCell']) (by omega) (by unfold maxLen; omega) (by omega) (by simp; omega) (w4.heap.size + 1) (by simp) ?_; intro g cap w5 hown5 hgrow5 hat5 hlt5; have hc5 : w5.cell? ⟨vb, 4, none⟩ = some (.slice a m c) := (hgrow5.cell_far ⟨vb, 4, none⟩ (by simp; omega) (Ne.symm hne)).trans (keep_cell ((Below.refl _ _).alloc (Nat.le_refl _) _) hc4 hv4); have hf5 : w5.frozen? ⟨vb, 4, none⟩ = false := (hgrow5.frozen_far ⟨vb, 4, none⟩ (by simp; omega) (Ne.symm hne)).trans ((((Below.refl _ _).alloc (Nat.le_refl _) _ : Below w4.heap.size w4 (w4.alloc _)).frozen (p := ⟨vb, 4, none⟩) hv4).trans hf4)))
      all_goals
        refine NoPanic.normal ?_
        go_wp2_with fail
        go_roundw
        case rel => exact ⟨j + 1, some ⟨g, 0, none⟩, j + 1, cap, xs ++ [(sk, x)], cs ++ [(sk, cx)], r4, by omega, by go_num, LL.out.round HTT.out HX.out hS4 hI4 hR4 hown5 hgrow5 hat5⟩
        case measure => simp [intOf]; omega
    · have hjn : j = n := by omega
      subst hjn
      obtain rfl : out = some (xs, rj) := by rw [← HL.out, L.rd]
      have r0 := L.box.res.c0; have r1 := L.box.res.c1; have r2 := L.box.res.c2; have r3 := L.box.res.c3; have r4 := L.box.res.c4
      have g0 := L.box.frz 0 (by omega); have g1 := L.box.frz 1 (by omega); have g2 := L.box.frz 2 (by omega); have g3 := L.box.frz 3 (by omega); have g4 := L.box.frz 4 (by omega)
      have hx := L.row.val (lo := vb + 1) (by rw [L.len, L.cen]) (Nat.le_refl _) kd (by omega) (by omega) (by rw [L.len]; omega)
      have HB2 := Lib.hid L.box
      have HX := Lib.hid hx
      clear L hx
      go_wp2_with fail
      exact leave_stored (base := vb + 1) HB2.out ⟨kd, 0, .empty, none, 0, 0, a, m, c⟩ HX.out (by omega) (by omega) (by omega) rfl
end Go.Proofs.YtcfbnmobfcabiaaDoor
namespace Go.Proofs.YtcfbnmobfcabiaaDoor
open Go.RowKit
theorem isVal_with {w : World} {B : Nat} {k : Int} {l : List V} {o : List (ByteArray × V)} {c : VC} (h : IsVal w B (.mk k 0 .empty l o) c) (n : Int) (s : ByteArray) (hn0 : -9223372036854775808 ≤ n) (hn1 : n ≤ 9223372036854775807) (hs : s.size ≤ 140737488355328) : IsVal w B (.mk k n s l o) ⟨c.k, n, s, c.la, c.ll, c.lc, c.oa, c.ol, c.oc⟩ := by
  obtain ⟨v, hv⟩ : ∃ v, (V.mk k 0 .empty l o) = v := ⟨_, rfl⟩
  rw [hv] at h
  cases h with
  | mk c l2 o2 cl co lb lo ob oo hbd hl ho hla hoa hlc hlv hoc hov =>
    injection hv with e1 e2 e3 e4 e5
    subst e4 e5
    rw [e1]
    exact .mk ⟨c.k, n, s, c.la, c.ll, c.lc, c.oa, c.ol, c.oc⟩ l o cl co lb lo ob oo ⟨hbd.k0, hbd.k1, hn0, hn1, hs, hbd.l1, hbd.l2, hbd.l3, hbd.o1, hbd.o2, hbd.o3⟩ hl ho hla hoa hlc hlv hoc hov
theorem isVal_str {w : World} {B : Nat} {v : V} {c : VC} (h : IsVal w B v c) : v.str = c.s ∧ c.s.size ≤ 140737488355328 := by
  cases h with
  | mk c l o cl co lb lo ob oo hbd => exact ⟨rfl, hbd.s1⟩
/-- The boxes of raw: its result, its piece, its value. -/
structure QR (w wr : World) (t : Tk) (c : VC) : Prop where
  res : BC wr w.heap.size [.int .u8 0, .int .i64 0, .string { data := #[] }, .slice none 0 0, .slice none 0 0]
  tok : BC wr (w.heap.size + 1) [.int .u8 t.k, .int .i64 t.n, .string t.s, .int .u8 t.m]
  val : BC wr (w.heap.size + 2) (vcells c)
  below : Below w.heap.size w wr
theorem QR.next {w wr W : World} {t : Tk} {c : VC} (h : QR w wr t c) (hb : Below wr.heap.size wr W) : QR w W t c :=
  ⟨h.res.keep hb h.res.lt, h.tok.keep hb h.tok.lt, h.val.keep hb h.val.lt, h.below.trans (hb.mono (Nat.le_of_lt h.res.lt))⟩
theorem QR.below_ {w wr W : World} {t : Tk} {c : VC} (h : QR w wr t c) {B : Nat} (hb : Below B wr W) (hB : w.heap.size + 3 ≤ B) : QR w W t c :=
  ⟨h.res.keep hb (by omega), h.tok.keep hb (by omega), h.val.keep hb (by omega), h.below.trans (hb.mono (by omega))⟩
theorem QR.start (w : World) (t : Tk) (t1 t2 t3 : TypeId) (W : World) (hW : W = ((w.alloc (.cells #[.int .u8 0, .int .i64 0, .string { data := #[] }, .slice none 0 0, .slice none 0 0] t1)).alloc (.cells #[.int .u8 t.k, .int .i64 t.n, .string t.s, .int .u8 t.m] t2)).alloc (.cells #[.int .u8 t.k, .int .i64 t.n, .string t.s, .slice none 0 0, .slice none 0 0] t3)) :
    QR w W t ⟨t.k, t.n, t.s, none, 0, 0, none, 0, 0⟩ ∧ W.heap.size = w.heap.size + 3 := by
  obtain ⟨w1, hw1⟩ : ∃ w1, w.alloc (.cells #[.int .u8 0, .int .i64 0, .string { data := #[] }, .slice none 0 0, .slice none 0 0] t1) = w1 := ⟨_, rfl⟩
  have s1 : w1.heap.size = w.heap.size + 1 := by rw [← hw1, World.size_alloc]
  have b1 : Below w.heap.size w w1 := by rw [← hw1]; exact (Below.refl _ _).alloc (Nat.le_refl _) _
  have c1 : BC w1 w.heap.size [.int .u8 0, .int .i64 0, .string { data := #[] }, .slice none 0 0, .slice none 0 0] := by rw [← hw1]; exact BC.start w #[.int .u8 0, .int .i64 0, .string { data := #[] }, .slice none 0 0, .slice none 0 0] t1
  rw [hw1] at hW
  obtain ⟨w2, hw2⟩ : ∃ w2, w1.alloc (.cells #[.int .u8 t.k, .int .i64 t.n, .string t.s, .int .u8 t.m] t2) = w2 := ⟨_, rfl⟩
  have s2 : w2.heap.size = w.heap.size + 2 := by rw [← hw2, World.size_alloc, s1]
  have b2 : Below w1.heap.size w1 w2 := by rw [← hw2]; exact (Below.refl _ _).alloc (Nat.le_refl _) _
  have c2 := BC.start w1 #[.int .u8 t.k, .int .i64 t.n, .string t.s, .int .u8 t.m] t2
  rw [hw2, s1] at c2
  rw [hw2] at hW
  subst hW
  have b3 : Below w2.heap.size w2 (w2.alloc (.cells #[.int .u8 t.k, .int .i64 t.n, .string t.s, .slice none 0 0, .slice none 0 0] t3)) := (Below.refl _ _).alloc (Nat.le_refl _) _
  have c3 := BC.start w2 #[.int .u8 t.k, .int .i64 t.n, .string t.s, .slice none 0 0, .slice none 0 0] t3
  rw [s2] at c3
  exact ⟨⟨(c1.keep b2 (by omega)).keep b3 (by omega), c2.keep b3 (by omega), c3, (b1.trans (b2.mono (by omega))).trans (b3.mono (by omega))⟩, by rw [World.size_alloc, s2]⟩
/-- What raw comes to. -/
def RawPost (w : World) (r : V × Nat) (e : Ending) (w' : World) : Prop :=
  (∃ c : VC, e = .returned (.tuple #[.agg #[.int .u8 c.k, .int .i64 c.n, .string c.s, .slice c.la c.ll c.lc, .slice c.oa c.ol c.oc], .int .i64 (r.2 : Int)]) ∧ IsVal (only (fun b => w.heap.size ≤ b) w') w'.heap.size r.1 c) ∧ Below w.heap.size w w'
theorem results_raw {tmps : Array Value} {W : World} {b : Nat} {c : VC} {x : Value} (ht : tmps[4]? = some (.pointer (some ⟨b, 0, none⟩))) (ht' : tmps[5]? = some x) (h : BC W b (vcells c)) :
    (results Tryd.f41 tmps).run Tryd.prog W = .ok (.tuple #[.agg #[.int .u8 c.k, .int .i64 c.n, .string c.s, .slice c.la c.ll c.lc, .slice c.oa c.ol c.oc], x]) W := by
  obtain ⟨r0, r1, r2, r3, r4⟩ := (⟨h.at_ 0 _ rfl, h.at_ 1 _ rfl, h.at_ 2 _ rfl, h.at_ 3 _ rfl, h.at_ 4 _ rfl⟩ : W.cell? ⟨b, 0, none⟩ = some (.int .u8 c.k) ∧ W.cell? ⟨b, 1, none⟩ = some (.int .i64 c.n) ∧ W.cell? ⟨b, 2, none⟩ = some (.string c.s) ∧ W.cell? ⟨b, 3, none⟩ = some (.slice c.la c.ll c.lc) ∧ W.cell? ⟨b, 4, none⟩ = some (.slice c.oa c.ol c.oc))
  simp [results, Tryd.results41, go_sem, ht, ht', r0, r1, r2, r3, r4]
theorem raw_leave {w W : World} {c : VC} {r : V × Nat} {a : Act} (h : BC W w.heap.size (vcells c)) (hb : Below w.heap.size w W) (hv : IsVal (only (fun b => w.heap.size ≤ b) W) W.heap.size r.1 c) (hd : a.defers = []) (ht : a.tmps[4]? = some (.pointer (some ⟨w.heap.size, 0, none⟩))) (ht' : a.tmps[5]? = some (.int .i64 (r.2 : Int))) :
    bodyPost Tryd.prog Tryd.f41 (RawPost w r) .ret a W :=
  ⟨hd, _, results_raw ht ht' h, ⟨c, rfl, hv⟩, hb⟩
theorem QR.stored {w W : World} {t : Tk} {c0 : VC} (h : QR w W t c0) (c : VC) : BC (((((W.setCell ⟨w.heap.size, 0, none⟩ (.int .u8 c.k)).setCell ⟨w.heap.size, 1, none⟩ (.int .i64 c.n)).setCell ⟨w.heap.size, 2, none⟩ (.string c.s)).setCell ⟨w.heap.size, 3, none⟩ (.slice c.la c.ll c.lc)).setCell ⟨w.heap.size, 4, none⟩ (.slice c.oa c.ol c.oc)) w.heap.size (vcells c) ∧ Below w.heap.size w (((((W.setCell ⟨w.heap.size, 0, none⟩ (.int .u8 c.k)).setCell ⟨w.heap.size, 1, none⟩ (.int .i64 c.n)).setCell ⟨w.heap.size, 2, none⟩ (.string c.s)).setCell ⟨w.heap.size, 3, none⟩ (.slice c.la c.ll c.lc)).setCell ⟨w.heap.size, 4, none⟩ (.slice c.oa c.ol c.oc)) ∧ RStep W (((((W.setCell ⟨w.heap.size, 0, none⟩ (.int .u8 c.k)).setCell ⟨w.heap.size, 1, none⟩ (.int .i64 c.n)).setCell ⟨w.heap.size, 2, none⟩ (.string c.s)).setCell ⟨w.heap.size, 3, none⟩ (.slice c.la c.ll c.lc)).setCell ⟨w.heap.size, 4, none⟩ (.slice c.oa c.ol c.oc)) w.heap.size := by
  have s1 : RStep W (((((W.setCell ⟨w.heap.size, 0, none⟩ (.int .u8 c.k)).setCell ⟨w.heap.size, 1, none⟩ (.int .i64 c.n)).setCell ⟨w.heap.size, 2, none⟩ (.string c.s)).setCell ⟨w.heap.size, 3, none⟩ (.slice c.la c.ll c.lc)).setCell ⟨w.heap.size, 4, none⟩ (.slice c.oa c.ol c.oc)) w.heap.size := (((RStep.self.trans RStep.self).trans RStep.self).trans RStep.self).trans RStep.self
  refine ⟨((((h.res.set (i := 0) (x := .int .u8 c.k) (by simp)).set (i := 1) (x := .int .i64 c.n) (by simp)).set (i := 2) (x := .string c.s) (by simp)).set (i := 3) (x := .slice c.la c.ll c.lc) (by simp)).set (i := 4) (x := .slice c.oa c.ol c.oc) (by simp), h.below.trans (s1.below (Nat.le_of_lt h.res.lt)), s1⟩
/-- At the head of a round of raw's loop (list). -/
structure RLL (w wr : World) (d : Nat) (l : List Tk) (t : Tk) (j : Nat) (a : Option Addr) (m c : Nat) (xs : List V) (cs : List VC) (u : Nat) : Prop where
  rd : fR (rawP d) l j = (xs, u, false)
  len : xs.length = j
  cen : cs.length = j
  box : QR w wr t ⟨t.k, t.n, t.s, a, m, c, none, 0, 0⟩
  row : RowV wr (w.heap.size + 3) (.slice a m c) xs cs
theorem RLL.round {w wr w4 w6 w7 : World} {d : Nat} {l : List Tk} {t : Tk} {j : Nat} {a : Option Addr} {m c : Nat} {xs : List V} {cs : List VC} {u : Nat} {x : V} {q : Nat} {cx : VC} {g cap : Nat}
    (h : RLL w wr d l t j a m c xs cs u) (hx : rawP d (l.drop u) = (x, q)) (hq : q ≠ 0) (hb4 : Below wr.heap.size wr w4) (hI : IsVal (only (fun b => wr.heap.size ≤ b) w4) w4.heap.size x cx) (hb6 : Below w4.heap.size w4 w6)
    (hown : w7.ownsRow (w.heap.size + 3) 28 5 (.slice (some ⟨g, 0, none⟩) (j + 1) cap) (j + 1) (cs.flatMap vcells ++ vcells cx)) (hg : w6.grownBy w7 (Value.slice a m c).ownBlock)
    (hat : (Value.slice a m c).ownBlock = some g ∨ w4.heap.size ≤ g) :
    RLL w (w7.setCell ⟨w.heap.size + 2, 3, none⟩ (.slice (some ⟨g, 0, none⟩) (j + 1) cap)) d l t (j + 1) (some ⟨g, 0, none⟩) (j + 1) cap (xs ++ [x]) (cs ++ [cx]) (u + q) := by
  have hrow := h.row.later (PV.closed xs cs) (.of_below 0 hb4) (by omega)
  have hrlt : ∀ b, (Value.slice a m c).ownBlock = some b → w.heap.size + 3 ≤ b ∧ b < wr.heap.size := h.row.lt
  have hsz := h.box.val.lt
  have hsz4 := hb4.size
  have hsz6 := hb6.size
  have hgb : Below (w.heap.size + 3) w6 w7 := grown_below hg (fun b hb => (hrlt b hb).1) (by omega)
  have hb67 : Below (w.heap.size + 3) w4 w7 := (hb6.mono (by omega)).trans hgb
  obtain ⟨s1, s2⟩ := PV.snoc (l := xs) (cs := cs) (by rw [h.len, h.cen]) x cx
  have hnew : PV (xs ++ [x]) (cs ++ [cx]) (only (Free (w.heap.size + 3) (.slice a m c)) w4) w4.heap.size xs.length := s1 _ _ (hI.sub (shows_step fun b hb _ => ⟨⟨by omega, fun e => by have := (hrlt b e.symm).2; omega⟩, rfl⟩))
  have hpush := Row.push (PV.closed (xs ++ [x]) (cs ++ [cx])) hrow hb6 hg (u' := .slice (some ⟨g, 0, none⟩) (j + 1) cap) (news := vcells cx) (by rw [h.len]; exact hown) (by
    rcases hat with e | e
    · left; rw [e]; rfl
    · right; intro b hb; have : g = b := by simpa [Value.ownBlock] using hb
      omega) hnew s2
  have hbox := (h.box.next hb4).below_ hb67 (Nat.le_refl _)
  refine ⟨?_, by simp [h.len], by simp [h.cen], ?_, ?_⟩
  · rw [fR, if_neg (by rw [h.rd]; simp), h.rd]
    dsimp only
    rw [hx, if_neg hq]
  · exact ⟨hbox.res.far (by omega), hbox.tok.far (by omega), hbox.val.set (i := 3) (x := .slice (some ⟨g, 0, none⟩) (j + 1) cap) (by simp [vcells]), hbox.below.trans ((RStep.self (b := w.heap.size + 2) (o := 3)).below (by have := hbox.val.lt; omega) |>.mono (by omega))⟩
  · have hr2 : RowV w7 (w.heap.size + 3) (.slice (some ⟨g, 0, none⟩) (j + 1) cap) (xs ++ [x]) (cs ++ [cx]) := by
      show Row _ _ _ _ _ _ _ _
      rw [flat_snoc, List.length_append, List.length_singleton]
      exact hpush
    exact hr2.set (PV.closed (xs ++ [x]) (cs ++ [cx])) (by omega)
/-- Fields whose key is the value's text. -/
def fld (xs : List V) : List (ByteArray × V) := xs.map fun x => (x.str, x)
def fldc (cs : List VC) : List (ByteArray × VC) := cs.map fun c => (c.s, c)
theorem fld_snoc (xs : List V) (x : V) : fld (xs ++ [x]) = fld xs ++ [(x.str, x)] := by simp [fld]
theorem fldc_snoc (cs : List VC) (c : VC) : fldc (cs ++ [c]) = fldc cs ++ [(c.s, c)] := by simp [fldc]
/-- At the head of a round of raw's loop (object). -/
structure RLO (w wr : World) (d : Nat) (l : List Tk) (t : Tk) (j : Nat) (a : Option Addr) (m c : Nat) (xs : List V) (cs : List VC) (u : Nat) : Prop where
  rd : fR (rawP d) l j = (xs, u, false)
  len : xs.length = j
  cen : cs.length = j
  box : QR w wr t ⟨t.k, t.n, t.s, none, 0, 0, a, m, c⟩
  row : RowF wr (w.heap.size + 3) (.slice a m c) (fld xs) (fldc cs)
theorem RLO.round {w wr w4 w6 w7 : World} {d : Nat} {l : List Tk} {t : Tk} {j : Nat} {a : Option Addr} {m c : Nat} {xs : List V} {cs : List VC} {u : Nat} {x : V} {q : Nat} {cx : VC} {g cap : Nat}
    (h : RLO w wr d l t j a m c xs cs u) (hx : rawP d (l.drop u) = (x, q)) (hq : q ≠ 0) (hb4 : Below wr.heap.size wr w4) (hI : IsVal (only (fun b => wr.heap.size ≤ b) w4) w4.heap.size x cx) (hb6 : Below w4.heap.size w4 w6)
    (hown : w7.ownsRow (w.heap.size + 3) 78 6 (.slice (some ⟨g, 0, none⟩) (j + 1) cap) (j + 1) ((fldc cs).flatMap fcells ++ fcells (cx.s, cx))) (hg : w6.grownBy w7 (Value.slice a m c).ownBlock)
    (hat : (Value.slice a m c).ownBlock = some g ∨ w4.heap.size ≤ g) :
    RLO w (w7.setCell ⟨w.heap.size + 2, 4, none⟩ (.slice (some ⟨g, 0, none⟩) (j + 1) cap)) d l t (j + 1) (some ⟨g, 0, none⟩) (j + 1) cap (xs ++ [x]) (cs ++ [cx]) (u + q) := by
  have hrow := h.row.later (PF.closed (fld xs) (fldc cs)) (.of_below 0 hb4) (by omega)
  have hrlt : ∀ b, (Value.slice a m c).ownBlock = some b → w.heap.size + 3 ≤ b ∧ b < wr.heap.size := h.row.lt
  have hsz := h.box.val.lt
  have hsz4 := hb4.size
  have hsz6 := hb6.size
  have hgb : Below (w.heap.size + 3) w6 w7 := grown_below hg (fun b hb => (hrlt b hb).1) (by omega)
  have hb67 : Below (w.heap.size + 3) w4 w7 := (hb6.mono (by omega)).trans hgb
  obtain ⟨s1, s2⟩ := PF.snoc (l := fld xs) (cs := fldc cs) (by simp [fld, fldc, h.len, h.cen]) cx.s (isVal_str hI).2 x cx
  have hnew : PF (fld xs ++ [(cx.s, x)]) (fldc cs ++ [(cx.s, cx)]) (only (Free (w.heap.size + 3) (.slice a m c)) w4) w4.heap.size (fld xs).length := s1 _ _ (hI.sub (shows_step fun b hb _ => ⟨⟨by omega, fun e => by have := (hrlt b e.symm).2; omega⟩, rfl⟩))
  have hpush := Row.push (PF.closed (fld xs ++ [(cx.s, x)]) (fldc cs ++ [(cx.s, cx)])) hrow hb6 hg (u' := .slice (some ⟨g, 0, none⟩) (j + 1) cap) (news := fcells (cx.s, cx)) (by rw [show (fld xs).length = j by simp [fld, h.len]]; exact hown) (by
    rcases hat with e | e
    · left; rw [e]; rfl
    · right; intro b hb; have : g = b := by simpa [Value.ownBlock] using hb
      omega) hnew s2
  have hbox := (h.box.next hb4).below_ hb67 (Nat.le_refl _)
  refine ⟨?_, by simp [h.len], by simp [h.cen], ?_, ?_⟩
  · rw [fR, if_neg (by rw [h.rd]; simp), h.rd]
    dsimp only
    rw [hx, if_neg hq]
  · exact ⟨hbox.res.far (by omega), hbox.tok.far (by omega), hbox.val.set (i := 4) (x := .slice (some ⟨g, 0, none⟩) (j + 1) cap) (by simp [vcells]), hbox.below.trans ((RStep.self (b := w.heap.size + 2) (o := 4)).below (by have := hbox.val.lt; omega) |>.mono (by omega))⟩
  · have hr2 : RowF w7 (w.heap.size + 3) (.slice (some ⟨g, 0, none⟩) (j + 1) cap) (fld (xs ++ [x])) (fldc (cs ++ [cx])) := by
      show Row _ _ _ _ _ _ _ _
      rw [fld_snoc, fldc_snoc, (isVal_str hI).1, flat_snoc, List.length_append, List.length_singleton]
      exact hpush
    exact hr2.set (PF.closed _ _) (by omega)
end Go.Proofs.YtcfbnmobfcabiaaDoor
namespace Go.Proofs.YtcfbnmobfcabiaaDoor
open Go.RowKit
set_option maxHeartbeats 8000000 in
set_option maxRecDepth 100000 in
theorem raw_list (w : World) (dd : Int) (hd0 : 0 ≤ dd) (hd : dd ≤ 19) (d : Nat) (t : Tk) (r : List Tk) (a : Option Addr) (n c : Nat) (h : IsToks w w.heap.size (t :: r) a n c) (IH : ∀ (W : World) (l : List Tk) (a : Option Addr) (n c : Nat), IsToks W W.heap.size l a n c → Calls Tryd.prog 41 #[.slice a n c, .int .i64 (dd + 1)] W (RawPost W (rawP d l))) (hk : t.k % 2 = 0) :
    Calls Tryd.prog 41 #[.slice a n c, .int .i64 dd] w (RawPost w (rawP (d + 1) (t :: r))) := by
  obtain ⟨i0, hi0, hz0, hz1, hz2⟩ := info_parts ginfoV
  have hw1 : IntKind.i64.wrap (dd + 1) = dd + 1 := IntWalk.i64_in _ (by omega)
  obtain ⟨b, o, hp, rfl, hb, htk, hbd⟩ := h.get (k := 0) (by have := h.len; rw [this]; simp)
  have ht : TkAt w b o t := by simpa using htk
  replace hbd : t.Bnd := by simpa using hbd
  have c0 := ht.c0; have c1 := ht.c1; have c2 := ht.c2; have c3 := ht.c3
  have b0 := hbd.k0; have b1 := hbd.k1; have b2 := hbd.m0; have b3 := hbd.m1
  have hlen := h.len
  have hcap := h.cap
  have hmax := h.max
  have hnp : 0 < n := by rw [hlen]; simp
  have hne : ((n : Int) == 0) = false := by simp; omega
  obtain ⟨K, hK⟩ : ∃ K : Nat, (t.m % 4).toNat = K := ⟨_, rfl⟩
  have hK1 : t.m % 4 = (K : Int) := by omega
  have hK2 : Int.tmod t.m 4 = (K : Int) := by rw [Int.tmod_eq_emod_of_nonneg b2]; exact hK1
  have hK3 : K ≤ 3 := by omega
  have HI := Lib.hid h
  have HQR := Lib.hid (QR.start w t 28 52 28)
  have HBD := Lib.hid hbd
  have IHH := Lib.hid IH
  have HLEN := Lib.hid hlen
  have HKK := Lib.hid hK
  clear h ht htk hp hbd IH hlen hK
  have hk2 : Int.tmod t.k 2 = 0 := by rw [Int.tmod_eq_emod_of_nonneg b0]; exact hk
  have HK := Lib.hid hk
  clear hk
  go_enter Tryd.func41, Tryd.ntmps41
  generalize hQ0 : bodyPost _ _ _ = Q0
  have HQ := Lib.hid hQ0
  clear hQ0
  go_wp2_with fail
  go_loopw [8, 9, 10, 11] (fun u i _ _ wr => ∃ (j : Nat) (a' : Option Addr) (m c' : Nat) (xs : List V) (cs : List VC) (un : Nat), j ≤ K ∧ u = .int .i64 un ∧ i = .int .u8 j ∧ RLL w wr d (t :: r) t j a' m c' xs cs un) (fun _ i _ _ _ => K - (intOf i).toNat)
  case atStart => exact ⟨0, none, 0, 0, [], [], 1, Nat.zero_le _, rfl, rfl, ⟨rfl, rfl, rfl, (HQR.out _ rfl).1, Row.nil _ _ _ _ _⟩⟩
  case round =>
    obtain ⟨j, a', m, c', xs, cs, un, hj, rfl, rfl, L⟩ := hrel
    have k0 := L.box.tok.at_ 0 _ rfl; have k3 := L.box.tok.at_ 3 _ rfl
    have v0 := L.box.val.at_ 0 _ rfl; have v1 := L.box.val.at_ 1 _ rfl; have v2 := L.box.val.at_ 2 _ rfl; have v3 := L.box.val.at_ 3 _ rfl; have v4 := L.box.val.at_ 4 _ rfl
    have p0 := L.box.val.fr 3
    have r0 := L.box.res.at_ 0 _ rfl; have r1 := L.box.res.at_ 1 _ rfl; have r2 := L.box.res.at_ 2 _ rfl; have r3 := L.box.res.at_ 3 _ rfl; have r4 := L.box.res.at_ 4 _ rfl
    have g0 := L.box.res.fr 0; have g1 := L.box.res.fr 1; have g2 := L.box.res.fr 2; have g3 := L.box.res.fr 3; have g4 := L.box.res.fr 4
    have zs2 := L.box.val.lt; have zs1 := L.box.tok.lt; have zs0 := L.box.res.lt
    obtain ⟨hu1, hu2, _⟩ : 1 ≤ un ∧ un ≤ n ∧ True := by
      have := fR_used (rawP_used d) (l := t :: r) (by simp) j
      rw [L.rd] at this
      exact ⟨this.1, by rw [HLEN.out]; exact this.2.1, trivial⟩
    by_cases hlt : j < K
    · have hz9 : c = un → n - un = 0 := by omega
      obtain ⟨⟨x, q⟩, hx⟩ : ∃ p, rawP d ((t :: r).drop un) = p := ⟨_, rfl⟩
      have hq2 : un + q ≤ n := by have := rawP_used d ((t :: r).drop un); rw [hx, List.length_drop] at this; have := HLEN.out; dsimp only at *; omega
      have HX := Lib.hid hx
      have HIW := (HI.out.later_ L.box.below).drop un hu2
      have HC : Hid (Calls Tryd.prog 41 #[if c = un then .slice (some ⟨b, o, none⟩) 0 0 else .slice (some ⟨b, o + un * 4, none⟩) (n - un) (c - un), .int .i64 (dd + 1)] wr (RawPost wr (x, q))) := by
        unfold Hid
        rw [← HX.out]
        by_cases hc : c = un
        · rw [if_pos hc]; exact IHH.out wr _ _ _ _ (HIW.none_left (hz9 hc))
        · rw [if_neg hc]; rw [Option.map_some, add_at] at HIW; exact IHH.out wr _ _ _ _ HIW
      have LL := Lib.hid L
      clear L HIW hx
      by_cases hc : c = un
      · rw [if_pos hc] at HC
        have hz := hz9 hc
        clear hz9
        subst hc
        go_wp2_with fail
        refine (HC.out).mono ?_
        rintro e w4 ⟨⟨cx, rfl, hI4⟩, hb4⟩
        have L := LL.out
        have B4 := L.box.next hb4
        have k0 := B4.tok.at_ 0 _ rfl; have k3 := B4.tok.at_ 3 _ rfl
        have v0 := B4.val.at_ 0 _ rfl; have v1 := B4.val.at_ 1 _ rfl; have v2 := B4.val.at_ 2 _ rfl; have v3 := B4.val.at_ 3 _ rfl; have v4 := B4.val.at_ 4 _ rfl
        have p0 := B4.val.fr 3
        have r0 := B4.res.at_ 0 _ rfl; have r1 := B4.res.at_ 1 _ rfl; have r2 := B4.res.at_ 2 _ rfl; have r3 := B4.res.at_ 3 _ rfl; have r4 := B4.res.at_ 4 _ rfl
        have g0 := B4.res.fr 0; have g1 := B4.res.fr 1; have g2 := B4.res.fr 2; have g3 := B4.res.fr 3; have g4 := B4.res.fr 4
        have zt2 := B4.val.lt; have zt1 := B4.tok.lt; have zt0 := B4.res.lt
        have hrow : RowV w4 (w.heap.size + 3) (.slice a' m c') xs cs := L.row.later (PV.closed xs cs) (.of_below 0 hb4) (by omega)
        by_cases hq : q = 0
        · subst hq
          have hs1 : fR (rawP d) (t :: r) (j + 1) = (xs, c, true) := by rw [fR, if_neg (by rw [L.rd]; simp), L.rd]; dsimp only; rw [HX.out, if_pos rfl]
          have hs2 := fR_stop (f := rawP d) (l := t :: r) (j := j + 1) (n := K) (by rw [hs1]) (by omega)
          have hR : rawP (d + 1) (t :: r) = (.mk t.k t.n t.s xs [], c) := by
            rw [rawP, HKK.out, hs2, hs1]; dsimp only; congr 1; rw [rawV, if_pos HK.out]
          have hv := isVal_with (RowV.val hrow (lo := w.heap.size + 3) (by rw [L.len, L.cen]) (Nat.le_refl _) t.k b0 b1 (by rw [L.len]; omega)) t.n t.s HBD.out.n0 HBD.out.n1 HBD.out.s1
          have HV := Lib.hid hv
          clear hv
          have LB := Lib.hid B4
          have HR := Lib.hid hR
          clear L B4 hrow hs1 hs2 hR hI4 hb4
          go_wp2_with fail
          have hR := HR.out
          have ST := LB.out.stored ⟨t.k, t.n, t.s, a', m, c', none, 0, 0⟩
          rw [← HQ.out, hR]
          exact raw_leave (c := ⟨t.k, t.n, t.s, a', m, c', none, 0, 0⟩) (ST.1.keep ((Below.refl _ _).alloc (Nat.le_refl _) _) ST.1.lt) (ST.2.1.alloc ST.2.1.size _) (((isVal_far HV.out ST.2.2 (by omega)).sub (shows_step (S' := fun b => w.heap.size ≤ b) fun k hk hl => ⟨by omega, ((Below.refl _ _).alloc (Nat.le_refl _) _ : Below _ _ _).block k hl⟩)).more (by simp)) rfl rfl rfl
        · exfalso; apply hq
          have h0 := HX.out
          rw [List.drop_eq_nil_of_le (by have := HLEN.out; omega)] at h0
          cases d <;> (rw [rawP] at h0; injection h0 with h1 h2; exact h2.symm)
      · rw [if_neg hc] at HC
        have huc : un < c := by omega
        clear hz9 hc
        go_wp2_with fail
        refine (HC.out).mono ?_
        rintro e w4 ⟨⟨cx, rfl, hI4⟩, hb4⟩
        have L := LL.out
        have B4 := L.box.next hb4
        have k0 := B4.tok.at_ 0 _ rfl; have k3 := B4.tok.at_ 3 _ rfl
        have v0 := B4.val.at_ 0 _ rfl; have v1 := B4.val.at_ 1 _ rfl; have v2 := B4.val.at_ 2 _ rfl; have v3 := B4.val.at_ 3 _ rfl; have v4 := B4.val.at_ 4 _ rfl
        have p0 := B4.val.fr 3
        have r0 := B4.res.at_ 0 _ rfl; have r1 := B4.res.at_ 1 _ rfl; have r2 := B4.res.at_ 2 _ rfl; have r3 := B4.res.at_ 3 _ rfl; have r4 := B4.res.at_ 4 _ rfl
        have g0 := B4.res.fr 0; have g1 := B4.res.fr 1; have g2 := B4.res.fr 2; have g3 := B4.res.fr 3; have g4 := B4.res.fr 4
        have zt2 := B4.val.lt; have zt1 := B4.tok.lt; have zt0 := B4.res.lt
        have hrow : RowV w4 (w.heap.size + 3) (.slice a' m c') xs cs := L.row.later (PV.closed xs cs) (.of_below 0 hb4) (by omega)
        by_cases hq : q = 0
        · subst hq
          have hs1 : fR (rawP d) (t :: r) (j + 1) = (xs, un, true) := by rw [fR, if_neg (by rw [L.rd]; simp), L.rd]; dsimp only; rw [HX.out, if_pos rfl]
          have hs2 := fR_stop (f := rawP d) (l := t :: r) (j := j + 1) (n := K) (by rw [hs1]) (by omega)
          have hR : rawP (d + 1) (t :: r) = (.mk t.k t.n t.s xs [], un) := by
            rw [rawP, HKK.out, hs2, hs1]; dsimp only; congr 1; rw [rawV, if_pos HK.out]
          have hv := isVal_with (RowV.val hrow (lo := w.heap.size + 3) (by rw [L.len, L.cen]) (Nat.le_refl _) t.k b0 b1 (by rw [L.len]; omega)) t.n t.s HBD.out.n0 HBD.out.n1 HBD.out.s1
          have HV := Lib.hid hv
          clear hv
          have LB := Lib.hid B4
          have HR := Lib.hid hR
          clear L B4 hrow hs1 hs2 hR hI4 hb4
          go_wp2_with fail
          have hR := HR.out
          have ST := LB.out.stored ⟨t.k, t.n, t.s, a', m, c', none, 0, 0⟩
          rw [← HQ.out, hR]
          exact raw_leave (c := ⟨t.k, t.n, t.s, a', m, c', none, 0, 0⟩) (ST.1.keep ((Below.refl _ _).alloc (Nat.le_refl _) _) ST.1.lt) (ST.2.1.alloc ST.2.1.size _) (((isVal_far HV.out ST.2.2 (by omega)).sub (shows_step (S' := fun b => w.heap.size ≤ b) fun k hk hl => ⟨by omega, ((Below.refl _ _).alloc (Nat.le_refl _) _ : Below _ _ _).block k hl⟩)).more (by simp)) rfl rfl rfl
        · have hqn : ((q : Int) == 0) = false := by simp; omega
          have hne2 : (Value.slice a' m c').ownBlock ≠ some (w.heap.size + 2) := fun e => by have := (L.row.lt _ e).1; omega
          have ho4 := hrow.own
          rw [L.len] at ho4
          have hu3 : (un : Int) + q ≤ 9223372036854775807 := by omega
          have HI4 := Lib.hid hI4
          have HB4 := Lib.hid hb4
          have hnw : ∀ jj u, (vcells cx)[jj]? = some u → ((w4.alloc (.cells #[.int .u8 cx.k, .int .i64 cx.n, .string cx.s, .slice cx.la cx.ll cx.lc, .slice cx.oa cx.ol cx.oc] 28)).alloc (.cells #[.int .u8 cx.k, .int .i64 cx.n, .string cx.s, .slice cx.la cx.ll cx.lc, .slice cx.oa cx.ol cx.oc] 28)).cell? ((⟨w4.heap.size + 1, 0, none⟩ : Addr).add jj) = some u := by
            have := World.news_of_block (t := 28) (fr := (0, 0)) (heap_alloc_new (w4.alloc (.cells #[.int .u8 cx.k, .int .i64 cx.n, .string cx.s, .slice cx.la cx.ll cx.lc, .slice cx.oa cx.ol cx.oc] 28)) (.cells #[.int .u8 cx.k, .int .i64 cx.n, .string cx.s, .slice cx.la cx.ll cx.lc, .slice cx.oa cx.ol cx.oc] 28))
            intro jj u hu
            simpa using this jj u (by simpa [vcells] using hu)
          have HNW := Lib.hid hnw
          have HB44 := Lib.hid B4
          clear L B4 hrow hI4 hb4 hnw
          go_wp2_with (at_builtin; refine wpList_append_lies _ rfl (.tmp 53) (.tmp 55) 25 (by rfl) (w.heap.size + 3) 28 i0 _ 5 80 Tryd.underlying25 hi0 hz0 hz1 hz2 rfl (by omega) (.slice a' m c') j (cs.flatMap vcells) (by rfl) ((ho4.alloc _).alloc _) ⟨w4.heap.size + 1, 0, none⟩ 1 1 (vcells cx) (by rfl) (by rfl) HNW.out (by simp [vcells, Value.oneCell']) (by omega) (by unfold maxLen; omega) (by omega) (by simp; omega) (w4.heap.size + 1 + 1) (by simp) ?_; intro g cap w7 hown7 hgrow7 hat7 hlt7; have hc7 : w7.cell? ⟨w.heap.size + 2, 3, none⟩ = some (.slice a' m c') := (hgrow7.cell_far ⟨w.heap.size + 2, 3, none⟩ (by simp; omega) (Ne.symm hne2)).trans (keep_cell ((Below.refl _ _).alloc (by simp) _) (keep_cell ((Below.refl _ _).alloc (Nat.le_refl _) _) (HB44.out.val.at_ 3 _ rfl) zt2) zt2); have hf7 : w7.frozen? ⟨w.heap.size + 2, 3, none⟩ = false := (hgrow7.frozen_far ⟨w.heap.size + 2, 3, none⟩ (by simp; omega) (Ne.symm hne2)).trans ((((Below.refl _ _).alloc (by simp) _ : Below w4.heap.size (w4.alloc _) ((w4.alloc _).alloc _)).frozen (p := ⟨w.heap.size + 2, 3, none⟩) zt2).trans ((((Below.refl _ _).alloc (Nat.le_refl _) _ : Below w4.heap.size w4 (w4.alloc _)).frozen (p := ⟨w.heap.size + 2, 3, none⟩) zt2).trans (HB44.out.val.fr 3))))
          go_roundw
          case rel => exact ⟨j + 1, some ⟨g, 0, none⟩, j + 1, cap, xs ++ [x], cs ++ [cx], un + q, by omega, by go_num, by go_num, LL.out.round HX.out hq HB4.out HI4.out (((Below.refl _ _).alloc (Nat.le_refl _) _).alloc (by simp) _) hown7 hgrow7 (hat7.imp_right fun e => by omega)⟩
          case measure => simp [intOf]; omega

    · have hjn : j = K := by omega
      subst hjn
      have hR : rawP (d + 1) (t :: r) = (.mk t.k t.n t.s xs [], un) := by
        rw [rawP, HKK.out, L.rd]; dsimp only; congr 1; rw [rawV, if_pos HK.out]
      have hv := isVal_with (RowV.val L.row (lo := w.heap.size + 3) (by rw [L.len, L.cen]) (Nat.le_refl _) t.k b0 b1 (by rw [L.len]; omega)) t.n t.s HBD.out.n0 HBD.out.n1 HBD.out.s1
      have HV := Lib.hid hv
      clear hv
      have LB := Lib.hid L.box
      clear L
      go_wp2_with fail
      have ST := LB.out.stored ⟨t.k, t.n, t.s, a', m, c', none, 0, 0⟩
      rw [← HQ.out, hR]
      exact raw_leave (c := ⟨t.k, t.n, t.s, a', m, c', none, 0, 0⟩) ST.1 ST.2.1 ((isVal_far HV.out ST.2.2 (by omega)).sub (shows_step fun k hk _ => ⟨by omega, rfl⟩)) rfl rfl rfl

set_option maxHeartbeats 8000000 in
set_option maxRecDepth 100000 in
theorem raw_obj (w : World) (dd : Int) (hd0 : 0 ≤ dd) (hd : dd ≤ 19) (d : Nat) (t : Tk) (r : List Tk) (a : Option Addr) (n c : Nat) (h : IsToks w w.heap.size (t :: r) a n c) (IH : ∀ (W : World) (l : List Tk) (a : Option Addr) (n c : Nat), IsToks W W.heap.size l a n c → Calls Tryd.prog 41 #[.slice a n c, .int .i64 (dd + 1)] W (RawPost W (rawP d l))) (hk : t.k % 2 = 1) :
    Calls Tryd.prog 41 #[.slice a n c, .int .i64 dd] w (RawPost w (rawP (d + 1) (t :: r))) := by
  obtain ⟨i0, hi0, hz0, hz1, hz2⟩ := info_parts ginfoFR
  have hw1 : IntKind.i64.wrap (dd + 1) = dd + 1 := IntWalk.i64_in _ (by omega)
  obtain ⟨b, o, hp, rfl, hb, htk, hbd⟩ := h.get (k := 0) (by have := h.len; rw [this]; simp)
  have ht : TkAt w b o t := by simpa using htk
  replace hbd : t.Bnd := by simpa using hbd
  have c0 := ht.c0; have c1 := ht.c1; have c2 := ht.c2; have c3 := ht.c3
  have b0 := hbd.k0; have b1 := hbd.k1; have b2 := hbd.m0; have b3 := hbd.m1
  have hlen := h.len
  have hcap := h.cap
  have hmax := h.max
  have hnp : 0 < n := by rw [hlen]; simp
  have hne : ((n : Int) == 0) = false := by simp; omega
  obtain ⟨K, hK⟩ : ∃ K : Nat, (t.m % 4).toNat = K := ⟨_, rfl⟩
  have hK1 : t.m % 4 = (K : Int) := by omega
  have hK2 : Int.tmod t.m 4 = (K : Int) := by rw [Int.tmod_eq_emod_of_nonneg b2]; exact hK1
  have hK3 : K ≤ 3 := by omega
  have HI := Lib.hid h
  have HQR := Lib.hid (QR.start w t 28 52 28)
  have HBD := Lib.hid hbd
  have IHH := Lib.hid IH
  have HLEN := Lib.hid hlen
  have HKK := Lib.hid hK
  clear h ht htk hp hbd IH hlen hK
  have hk2 : Int.tmod t.k 2 = 1 := by rw [Int.tmod_eq_emod_of_nonneg b0]; exact hk
  have HK := Lib.hid hk
  clear hk
  go_enter Tryd.func41, Tryd.ntmps41
  generalize hQ0 : bodyPost _ _ _ = Q0
  have HQ := Lib.hid hQ0
  clear hQ0
  go_wp2_with fail
  go_loopw [8, 9, 10, 11] (fun u i _ _ wr => ∃ (j : Nat) (a' : Option Addr) (m c' : Nat) (xs : List V) (cs : List VC) (un : Nat), j ≤ K ∧ u = .int .i64 un ∧ i = .int .u8 j ∧ RLO w wr d (t :: r) t j a' m c' xs cs un) (fun _ i _ _ _ => K - (intOf i).toNat)
  case atStart => exact ⟨0, none, 0, 0, [], [], 1, Nat.zero_le _, rfl, rfl, ⟨rfl, rfl, rfl, (HQR.out _ rfl).1, Row.nil _ _ _ _ _⟩⟩
  case round =>
    obtain ⟨j, a', m, c', xs, cs, un, hj, rfl, rfl, L⟩ := hrel
    have k0 := L.box.tok.at_ 0 _ rfl; have k3 := L.box.tok.at_ 3 _ rfl
    have v0 := L.box.val.at_ 0 _ rfl; have v1 := L.box.val.at_ 1 _ rfl; have v2 := L.box.val.at_ 2 _ rfl; have v3 := L.box.val.at_ 3 _ rfl; have v4 := L.box.val.at_ 4 _ rfl
    have p0 := L.box.val.fr 4
    have r0 := L.box.res.at_ 0 _ rfl; have r1 := L.box.res.at_ 1 _ rfl; have r2 := L.box.res.at_ 2 _ rfl; have r3 := L.box.res.at_ 3 _ rfl; have r4 := L.box.res.at_ 4 _ rfl
    have g0 := L.box.res.fr 0; have g1 := L.box.res.fr 1; have g2 := L.box.res.fr 2; have g3 := L.box.res.fr 3; have g4 := L.box.res.fr 4
    have zs2 := L.box.val.lt; have zs1 := L.box.tok.lt; have zs0 := L.box.res.lt
    obtain ⟨hu1, hu2, _⟩ : 1 ≤ un ∧ un ≤ n ∧ True := by
      have := fR_used (rawP_used d) (l := t :: r) (by simp) j
      rw [L.rd] at this
      exact ⟨this.1, by rw [HLEN.out]; exact this.2.1, trivial⟩
    by_cases hlt : j < K
    · have hz9 : c = un → n - un = 0 := by omega
      obtain ⟨⟨x, q⟩, hx⟩ : ∃ p, rawP d ((t :: r).drop un) = p := ⟨_, rfl⟩
      have hq2 : un + q ≤ n := by have := rawP_used d ((t :: r).drop un); rw [hx, List.length_drop] at this; have := HLEN.out; dsimp only at *; omega
      have HX := Lib.hid hx
      have HIW := (HI.out.later_ L.box.below).drop un hu2
      have HC : Hid (Calls Tryd.prog 41 #[if c = un then .slice (some ⟨b, o, none⟩) 0 0 else .slice (some ⟨b, o + un * 4, none⟩) (n - un) (c - un), .int .i64 (dd + 1)] wr (RawPost wr (x, q))) := by
        unfold Hid
        rw [← HX.out]
        by_cases hc : c = un
        · rw [if_pos hc]; exact IHH.out wr _ _ _ _ (HIW.none_left (hz9 hc))
        · rw [if_neg hc]; rw [Option.map_some, add_at] at HIW; exact IHH.out wr _ _ _ _ HIW
      have LL := Lib.hid L
      clear L HIW hx
      by_cases hc : c = un
      · rw [if_pos hc] at HC
        have hz := hz9 hc
        clear hz9
        subst hc
        go_wp2_with fail
        refine (HC.out).mono ?_
        rintro e w4 ⟨⟨cx, rfl, hI4⟩, hb4⟩
        have L := LL.out
        have B4 := L.box.next hb4
        have k0 := B4.tok.at_ 0 _ rfl; have k3 := B4.tok.at_ 3 _ rfl
        have v0 := B4.val.at_ 0 _ rfl; have v1 := B4.val.at_ 1 _ rfl; have v2 := B4.val.at_ 2 _ rfl; have v3 := B4.val.at_ 3 _ rfl; have v4 := B4.val.at_ 4 _ rfl
        have p0 := B4.val.fr 4
        have r0 := B4.res.at_ 0 _ rfl; have r1 := B4.res.at_ 1 _ rfl; have r2 := B4.res.at_ 2 _ rfl; have r3 := B4.res.at_ 3 _ rfl; have r4 := B4.res.at_ 4 _ rfl
        have g0 := B4.res.fr 0; have g1 := B4.res.fr 1; have g2 := B4.res.fr 2; have g3 := B4.res.fr 3; have g4 := B4.res.fr 4
        have zt2 := B4.val.lt; have zt1 := B4.tok.lt; have zt0 := B4.res.lt
        have hrow : RowF w4 (w.heap.size + 3) (.slice a' m c') (fld xs) (fldc cs) := L.row.later (PF.closed (fld xs) (fldc cs)) (.of_below 0 hb4) (by omega)
        by_cases hq : q = 0
        · subst hq
          have hs1 : fR (rawP d) (t :: r) (j + 1) = (xs, c, true) := by rw [fR, if_neg (by rw [L.rd]; simp), L.rd]; dsimp only; rw [HX.out, if_pos rfl]
          have hs2 := fR_stop (f := rawP d) (l := t :: r) (j := j + 1) (n := K) (by rw [hs1]) (by omega)
          have hR : rawP (d + 1) (t :: r) = (.mk t.k t.n t.s [] (fld xs), c) := by
            rw [rawP, HKK.out, hs2, hs1]; dsimp only; congr 1; rw [rawV, if_neg (by rw [HK.out]; decide)]; rfl
          have hv := isVal_with (RowF.val hrow (lo := w.heap.size + 3) (by simp [fld, fldc, L.len, L.cen]) (Nat.le_refl _) t.k b0 b1 (by rw [show (fld xs).length = xs.length by simp [fld], L.len]; omega)) t.n t.s HBD.out.n0 HBD.out.n1 HBD.out.s1
          have HV := Lib.hid hv
          clear hv
          have LB := Lib.hid B4
          have HR := Lib.hid hR
          clear L B4 hrow hs1 hs2 hR hI4 hb4
          go_wp2_with fail
          have hR := HR.out
          have ST := LB.out.stored ⟨t.k, t.n, t.s, none, 0, 0, a', m, c'⟩
          rw [← HQ.out, hR]
          exact raw_leave (c := ⟨t.k, t.n, t.s, none, 0, 0, a', m, c'⟩) (ST.1.keep ((Below.refl _ _).alloc (Nat.le_refl _) _) ST.1.lt) (ST.2.1.alloc ST.2.1.size _) (((isVal_far HV.out ST.2.2 (by omega)).sub (shows_step (S' := fun b => w.heap.size ≤ b) fun k hk hl => ⟨by omega, ((Below.refl _ _).alloc (Nat.le_refl _) _ : Below _ _ _).block k hl⟩)).more (by simp)) rfl rfl rfl
        · exfalso; apply hq
          have h0 := HX.out
          rw [List.drop_eq_nil_of_le (by have := HLEN.out; omega)] at h0
          cases d <;> (rw [rawP] at h0; injection h0 with h1 h2; exact h2.symm)
      · rw [if_neg hc] at HC
        have huc : un < c := by omega
        clear hz9 hc
        go_wp2_with fail
        refine (HC.out).mono ?_
        rintro e w4 ⟨⟨cx, rfl, hI4⟩, hb4⟩
        have L := LL.out
        have B4 := L.box.next hb4
        have k0 := B4.tok.at_ 0 _ rfl; have k3 := B4.tok.at_ 3 _ rfl
        have v0 := B4.val.at_ 0 _ rfl; have v1 := B4.val.at_ 1 _ rfl; have v2 := B4.val.at_ 2 _ rfl; have v3 := B4.val.at_ 3 _ rfl; have v4 := B4.val.at_ 4 _ rfl
        have p0 := B4.val.fr 4
        have r0 := B4.res.at_ 0 _ rfl; have r1 := B4.res.at_ 1 _ rfl; have r2 := B4.res.at_ 2 _ rfl; have r3 := B4.res.at_ 3 _ rfl; have r4 := B4.res.at_ 4 _ rfl
        have g0 := B4.res.fr 0; have g1 := B4.res.fr 1; have g2 := B4.res.fr 2; have g3 := B4.res.fr 3; have g4 := B4.res.fr 4
        have zt2 := B4.val.lt; have zt1 := B4.tok.lt; have zt0 := B4.res.lt
        have hrow : RowF w4 (w.heap.size + 3) (.slice a' m c') (fld xs) (fldc cs) := L.row.later (PF.closed (fld xs) (fldc cs)) (.of_below 0 hb4) (by omega)
        by_cases hq : q = 0
        · subst hq
          have hs1 : fR (rawP d) (t :: r) (j + 1) = (xs, un, true) := by rw [fR, if_neg (by rw [L.rd]; simp), L.rd]; dsimp only; rw [HX.out, if_pos rfl]
          have hs2 := fR_stop (f := rawP d) (l := t :: r) (j := j + 1) (n := K) (by rw [hs1]) (by omega)
          have hR : rawP (d + 1) (t :: r) = (.mk t.k t.n t.s [] (fld xs), un) := by
            rw [rawP, HKK.out, hs2, hs1]; dsimp only; congr 1; rw [rawV, if_neg (by rw [HK.out]; decide)]; rfl
          have hv := isVal_with (RowF.val hrow (lo := w.heap.size + 3) (by simp [fld, fldc, L.len, L.cen]) (Nat.le_refl _) t.k b0 b1 (by rw [show (fld xs).length = xs.length by simp [fld], L.len]; omega)) t.n t.s HBD.out.n0 HBD.out.n1 HBD.out.s1
          have HV := Lib.hid hv
          clear hv
          have LB := Lib.hid B4
          have HR := Lib.hid hR
          clear L B4 hrow hs1 hs2 hR hI4 hb4
          go_wp2_with fail
          have hR := HR.out
          have ST := LB.out.stored ⟨t.k, t.n, t.s, none, 0, 0, a', m, c'⟩
          rw [← HQ.out, hR]
          exact raw_leave (c := ⟨t.k, t.n, t.s, none, 0, 0, a', m, c'⟩) (ST.1.keep ((Below.refl _ _).alloc (Nat.le_refl _) _) ST.1.lt) (ST.2.1.alloc ST.2.1.size _) (((isVal_far HV.out ST.2.2 (by omega)).sub (shows_step (S' := fun b => w.heap.size ≤ b) fun k hk hl => ⟨by omega, ((Below.refl _ _).alloc (Nat.le_refl _) _ : Below _ _ _).block k hl⟩)).more (by simp)) rfl rfl rfl
        · have hqn : ((q : Int) == 0) = false := by simp; omega
          have hne2 : (Value.slice a' m c').ownBlock ≠ some (w.heap.size + 2) := fun e => by have := (L.row.lt _ e).1; omega
          have ho4 := hrow.own
          rw [show (fld xs).length = j by simp [fld, L.len]] at ho4
          have hu3 : (un : Int) + q ≤ 9223372036854775807 := by omega
          have HI4 := Lib.hid hI4
          have HB4 := Lib.hid hb4
          have hnw : ∀ jj u, (fcells (cx.s, cx))[jj]? = some u → ((w4.alloc (.cells #[.int .u8 cx.k, .int .i64 cx.n, .string cx.s, .slice cx.la cx.ll cx.lc, .slice cx.oa cx.ol cx.oc] 28)).alloc (.cells #[.string cx.s, .int .u8 cx.k, .int .i64 cx.n, .string cx.s, .slice cx.la cx.ll cx.lc, .slice cx.oa cx.ol cx.oc] 78)).cell? ((⟨w4.heap.size + 1, 0, none⟩ : Addr).add jj) = some u := by
            have := World.news_of_block (t := 78) (fr := (0, 0)) (heap_alloc_new (w4.alloc (.cells #[.int .u8 cx.k, .int .i64 cx.n, .string cx.s, .slice cx.la cx.ll cx.lc, .slice cx.oa cx.ol cx.oc] 28)) (.cells #[.string cx.s, .int .u8 cx.k, .int .i64 cx.n, .string cx.s, .slice cx.la cx.ll cx.lc, .slice cx.oa cx.ol cx.oc] 78))
            intro jj u hu
            simpa using this jj u (by simpa [fcells] using hu)
          have HNW := Lib.hid hnw
          have HB44 := Lib.hid B4
          clear L B4 hrow hI4 hb4 hnw
          go_wp2_with (at_builtin; refine wpList_append_lies _ rfl (.tmp 59) (.tmp 64) 26 (by rfl) (w.heap.size + 3) 78 i0 _ 6 96 Tryd.underlying26 hi0 hz0 hz1 hz2 rfl (by omega) (.slice a' m c') j ((fldc cs).flatMap fcells) (by rfl) ((ho4.alloc _).alloc _) ⟨w4.heap.size + 1, 0, none⟩ 1 1 (fcells (cx.s, cx)) (by rfl) (by rfl) HNW.out (by simp [fcells, Value.oneCell']) (by omega) (by unfold maxLen; omega) (by omega) (by simp; omega) (w4.heap.size + 1 + 1) (by simp) ?_; intro g cap w7 hown7 hgrow7 hat7 hlt7; have hc7 : w7.cell? ⟨w.heap.size + 2, 4, none⟩ = some (.slice a' m c') := (hgrow7.cell_far ⟨w.heap.size + 2, 4, none⟩ (by simp; omega) (Ne.symm hne2)).trans (keep_cell ((Below.refl _ _).alloc (by simp) _) (keep_cell ((Below.refl _ _).alloc (Nat.le_refl _) _) (HB44.out.val.at_ 4 _ rfl) zt2) zt2); have hf7 : w7.frozen? ⟨w.heap.size + 2, 4, none⟩ = false := (hgrow7.frozen_far ⟨w.heap.size + 2, 4, none⟩ (by simp; omega) (Ne.symm hne2)).trans ((((Below.refl _ _).alloc (by simp) _ : Below w4.heap.size (w4.alloc _) ((w4.alloc _).alloc _)).frozen (p := ⟨w.heap.size + 2, 4, none⟩) zt2).trans ((((Below.refl _ _).alloc (Nat.le_refl _) _ : Below w4.heap.size w4 (w4.alloc _)).frozen (p := ⟨w.heap.size + 2, 4, none⟩) zt2).trans (HB44.out.val.fr 4))))
          go_roundw
          case rel => exact ⟨j + 1, some ⟨g, 0, none⟩, j + 1, cap, xs ++ [x], cs ++ [cx], un + q, by omega, by go_num, by go_num, LL.out.round HX.out hq HB4.out HI4.out (((Below.refl _ _).alloc (Nat.le_refl _) _).alloc (by simp) _) hown7 hgrow7 (hat7.imp_right fun e => by omega)⟩
          case measure => simp [intOf]; omega

    · have hjn : j = K := by omega
      subst hjn
      have hR : rawP (d + 1) (t :: r) = (.mk t.k t.n t.s [] (fld xs), un) := by
        rw [rawP, HKK.out, L.rd]; dsimp only; congr 1; rw [rawV, if_neg (by rw [HK.out]; decide)]; rfl
      have hv := isVal_with (RowF.val L.row (lo := w.heap.size + 3) (by simp [fld, fldc, L.len, L.cen]) (Nat.le_refl _) t.k b0 b1 (by rw [show (fld xs).length = xs.length by simp [fld], L.len]; omega)) t.n t.s HBD.out.n0 HBD.out.n1 HBD.out.s1
      have HV := Lib.hid hv
      clear hv
      have LB := Lib.hid L.box
      clear L
      go_wp2_with fail
      have ST := LB.out.stored ⟨t.k, t.n, t.s, none, 0, 0, a', m, c'⟩
      rw [← HQ.out, hR]
      exact raw_leave (c := ⟨t.k, t.n, t.s, none, 0, 0, a', m, c'⟩) ST.1 ST.2.1 ((isVal_far HV.out ST.2.2 (by omega)).sub (shows_step fun k hk _ => ⟨by omega, rfl⟩)) rfl rfl rfl

set_option maxHeartbeats 2000000 in
set_option maxRecDepth 100000 in
theorem raw_nil (w : World) (dd : Int) (a : Option Addr) (c : Nat) :
    Calls Tryd.prog 41 #[.slice a 0 c, .int .i64 dd] w (RawPost w (V.none, 0)) := by
  go_enter Tryd.func41, Tryd.ntmps41
  generalize hQ0 : bodyPost _ _ _ = Q0
  have HQ := Lib.hid hQ0
  clear hQ0
  go_wp2_with fail
  rw [← HQ.out]
  exact raw_leave (c := vzero) (BC.start w #[.int .u8 0, .int .i64 0, .string { data := #[] }, .slice none 0 0, .slice none 0 0] _) ((Below.refl _ _).alloc (Nat.le_refl _) _) (isVal_none _ _) rfl rfl rfl
set_option maxHeartbeats 4000000 in
set_option maxRecDepth 100000 in
theorem raw_end (w : World) (t : Tk) (r : List Tk) (a : Option Addr) (n c : Nat) (h : IsToks w w.heap.size (t :: r) a n c) :
    Calls Tryd.prog 41 #[.slice a n c, .int .i64 20] w (RawPost w (rawP 0 (t :: r))) := by
  obtain ⟨b, o, hp, rfl, hb, htk, hbd⟩ := h.get (k := 0) (by have := h.len; rw [this]; simp)
  have ht : TkAt w b o t := by simpa using htk
  replace hbd : t.Bnd := by simpa using hbd
  have c0 := ht.c0; have c1 := ht.c1; have c2 := ht.c2; have c3 := ht.c3
  have b2 := hbd.m0; have b3 := hbd.m1
  have hnp : 0 < n := by rw [h.len]; simp
  have hne : ((n : Int) == 0) = false := by simp; omega
  obtain ⟨K, hK⟩ : ∃ K : Nat, (t.m % 4).toNat = K := ⟨_, rfl⟩
  have hK2 : Int.tmod t.m 4 = (K : Int) := by rw [Int.tmod_eq_emod_of_nonneg b2]; omega
  have HQR := Lib.hid (QR.start w t 28 52 28)
  have HBD := Lib.hid hbd
  clear h ht htk hp hbd hK
  go_enter Tryd.func41, Tryd.ntmps41
  generalize hQ0 : bodyPost _ _ _ = Q0
  have HQ := Lib.hid hQ0
  clear hQ0
  go_wp2_with fail
  go_loopw [8, 9, 10, 11] (fun u i _ _ wr => u = .int .i64 1 ∧ i = .int .u8 0 ∧ QR w wr t ⟨t.k, t.n, t.s, none, 0, 0, none, 0, 0⟩) (fun _ _ _ _ _ => 0)
  case atStart => exact ⟨rfl, rfl, (HQR.out _ rfl).1⟩
  case round =>
    obtain ⟨rfl, rfl, L⟩ := hrel
    have k0 := L.tok.at_ 0 _ rfl; have k3 := L.tok.at_ 3 _ rfl
    have v0 := L.val.at_ 0 _ rfl; have v1 := L.val.at_ 1 _ rfl; have v2 := L.val.at_ 2 _ rfl; have v3 := L.val.at_ 3 _ rfl; have v4 := L.val.at_ 4 _ rfl
    have r0 := L.res.at_ 0 _ rfl; have r1 := L.res.at_ 1 _ rfl; have r2 := L.res.at_ 2 _ rfl; have r3 := L.res.at_ 3 _ rfl; have r4 := L.res.at_ 4 _ rfl
    have g0 := L.res.fr 0; have g1 := L.res.fr 1; have g2 := L.res.fr 2; have g3 := L.res.fr 3; have g4 := L.res.fr 4
    have zs2 := L.val.lt; have zs1 := L.tok.lt; have zs0 := L.res.lt
    have LB := Lib.hid L
    clear L
    by_cases hK0 : 0 < K
    all_goals
      go_wp2_with fail
      have ST := LB.out.stored ⟨t.k, t.n, t.s, none, 0, 0, none, 0, 0⟩
      rw [← HQ.out]
      exact raw_leave (c := ⟨t.k, t.n, t.s, none, 0, 0, none, 0, 0⟩) ST.1 ST.2.1 (isVal_leaf _ _ t.k t.n t.s HBD.out.k0 HBD.out.k1 HBD.out.n0 HBD.out.n1 HBD.out.s1) rfl rfl rfl
theorem raw_any (d : Nat) : ∀ (dd : Int), 0 ≤ dd → dd + d = 20 → ∀ (w : World) (l : List Tk) (a : Option Addr) (n c : Nat), IsToks w w.heap.size l a n c →
    Calls Tryd.prog 41 #[.slice a n c, .int .i64 dd] w (RawPost w (rawP d l)) := by
  induction d with
  | zero =>
    intro dd _ hd w l a n c h
    cases l with
    | nil => obtain rfl : n = 0 := h.len; exact raw_nil w dd a c
    | cons t r =>
      obtain rfl : dd = 20 := by omega
      exact raw_end w t r a n c h
  | succ d ih =>
    intro dd hd0 hd w l a n c h
    cases l with
    | nil => obtain rfl : n = 0 := h.len; exact raw_nil w dd a c
    | cons t r =>
      have IH := fun W l a n c h => ih (dd + 1) (by omega) (by omega) W l a n c h
      by_cases hk : t.k % 2 = 0
      · exact raw_list w dd hd0 (by omega) d t r a n c h IH hk
      · exact raw_obj w dd hd0 (by omega) d t r a n c h IH (by omega)
end Go.Proofs.YtcfbnmobfcabiaaDoor
namespace Go.Proofs.YtcfbnmobfcabiaaDoor
open Go.RowKit
theorem results_rawF {tmps : Array Value} {W : World} {b : Nat} {c : VC} (ht : tmps[2]? = some (.pointer (some ⟨b, 0, none⟩))) (h : BC W b (vcells c)) :
    (results Tryd.f17 tmps).run Tryd.prog W = .ok (.agg #[.int .u8 c.k, .int .i64 c.n, .string c.s, .slice c.la c.ll c.lc, .slice c.oa c.ol c.oc]) W := by
  obtain ⟨r0, r1, r2, r3, r4⟩ := (⟨h.at_ 0 _ rfl, h.at_ 1 _ rfl, h.at_ 2 _ rfl, h.at_ 3 _ rfl, h.at_ 4 _ rfl⟩ : W.cell? ⟨b, 0, none⟩ = some (.int .u8 c.k) ∧ W.cell? ⟨b, 1, none⟩ = some (.int .i64 c.n) ∧ W.cell? ⟨b, 2, none⟩ = some (.string c.s) ∧ W.cell? ⟨b, 3, none⟩ = some (.slice c.la c.ll c.lc) ∧ W.cell? ⟨b, 4, none⟩ = some (.slice c.oa c.ol c.oc))
  simp [results, Tryd.results17, go_sem, ht, r0, r1, r2, r3, r4]
set_option maxHeartbeats 4000000 in
set_option maxRecDepth 100000 in
theorem rawF_any (w : World) (l : List Tk) (a : Option Addr) (n c : Nat) (h : IsToks w w.heap.size l a n c) :
    Calls Tryd.prog 17 #[.slice a n c] w fun e w' => (∃ cv : VC, e = .returned (.agg #[.int .u8 cv.k, .int .i64 cv.n, .string cv.s, .slice cv.la cv.ll cv.lc, .slice cv.oa cv.ol cv.oc]) ∧ IsVal w' w'.heap.size (rawP 20 (l.take 60)).1 cv) ∧ Below w.heap.size w w' := by
  have hlen := h.len
  have hcap := h.cap
  have hmax := h.max
  have HD := Lib.hid (BC.start w #[.int .u8 0, .int .i64 0, .string { data := #[] }, .slice none 0 0, .slice none 0 0] 28)
  have hal : Below w.heap.size w (w.alloc (.cells #[.int .u8 0, .int .i64 0, .string { data := #[] }, .slice none 0 0, .slice none 0 0] 28)) := (Below.refl _ _).alloc (Nat.le_refl _) _
  have HAL := Lib.hid hal
  obtain ⟨N, hN⟩ : ∃ N, min n 60 = N := ⟨_, rfl⟩
  have hN2 : N ≤ n := by omega
  have htk : l.take N = l.take 60 := by
    by_cases hq : n ≤ 60
    · rw [List.take_of_length_le (by omega), List.take_of_length_le (by omega)]
    · rw [show N = 60 by omega]
  have HI := Lib.hid ((h.later_ hal).take N hN2)
  rw [htk] at HI
  obtain ⟨p, hp⟩ : ∃ p, rawP 20 (l.take 60) = p := ⟨_, rfl⟩
  have HP := Lib.hid hp
  rw [hp]
  have hcs : (n ≤ 60 ∧ N = n) ∨ (60 < n ∧ N = 60) := by omega
  clear hN hN2
  rcases hcs with ⟨hq, rfl⟩ | ⟨hq, rfl⟩
  all_goals
    clear h hlen hal htk hp
    go_enter Tryd.func17, Tryd.ntmps17
    generalize hQ0 : bodyPost _ _ _ = Q0
    have HQ := Lib.hid hQ0
    clear hQ0
    go_wp2_with fail
    refine (raw_any 20 0 (by omega) (by omega) _ _ _ _ _ HI.out).mono ?_
    rw [HP.out]
    rintro e w3 ⟨⟨cv, rfl, hI3⟩, hb3⟩
    have D := HD.out.keep hb3 (by simp)
    have r0 := D.at_ 0 _ rfl; have r1 := D.at_ 1 _ rfl; have r2 := D.at_ 2 _ rfl; have r3 := D.at_ 3 _ rfl; have r4 := D.at_ 4 _ rfl
    have g0 := D.fr 0; have g1 := D.fr 1; have g2 := D.fr 2; have g3 := D.fr 3; have g4 := D.fr 4
    have zs3 : w.heap.size < w3.heap.size := D.lt
    have HD3 := Lib.hid D
    have HI3 := Lib.hid hI3
    have HB3 := Lib.hid (HAL.out.trans (hb3.mono (by simp)))
    clear D hI3 hb3
    go_wp2_with fail
    rw [← HQ.out]
    have s1 : RStep w3 (((((w3.setCell ⟨w.heap.size, 0, none⟩ (.int .u8 cv.k)).setCell ⟨w.heap.size, 1, none⟩ (.int .i64 cv.n)).setCell ⟨w.heap.size, 2, none⟩ (.string cv.s)).setCell ⟨w.heap.size, 3, none⟩ (.slice cv.la cv.ll cv.lc)).setCell ⟨w.heap.size, 4, none⟩ (.slice cv.oa cv.ol cv.oc)) w.heap.size := (((RStep.self.trans RStep.self).trans RStep.self).trans RStep.self).trans RStep.self
    have hbc : BC (((((w3.setCell ⟨w.heap.size, 0, none⟩ (.int .u8 cv.k)).setCell ⟨w.heap.size, 1, none⟩ (.int .i64 cv.n)).setCell ⟨w.heap.size, 2, none⟩ (.string cv.s)).setCell ⟨w.heap.size, 3, none⟩ (.slice cv.la cv.ll cv.lc)).setCell ⟨w.heap.size, 4, none⟩ (.slice cv.oa cv.ol cv.oc)) w.heap.size (vcells cv) := ((((HD3.out.set (i := 0) (x := .int .u8 cv.k) (by simp)).set (i := 1) (x := .int .i64 cv.n) (by simp)).set (i := 2) (x := .string cv.s) (by simp)).set (i := 3) (x := .slice cv.la cv.ll cv.lc) (by simp)).set (i := 4) (x := .slice cv.oa cv.ol cv.oc) (by simp)
    have hv := (isVal_far HI3.out s1 (by simp)).sub (shows_only _ _ _)
    have hB := HB3.out.trans (s1.below (by omega))
    exact ⟨rfl, _, results_rawF rfl (hbc.keep ((Below.refl _ _).alloc (Nat.le_refl _) _) hbc.lt), ⟨cv, rfl, hv.later_ ((Below.refl _ _).alloc (Nat.le_refl _) _)⟩, hB.alloc hB.size _⟩
end Go.Proofs.YtcfbnmobfcabiaaDoor
namespace Go.Proofs.YtcfbnmobfcabiaaDoor
open Go.RowKit
def low (b : UInt8) : UInt8 := UInt8.ofNat (b.toNat % 128)
def plainL (l : List UInt8) : List UInt8 := (l.take 40).map low
def plainS (s : ByteArray) : ByteArray := ⟨(plainL s.data.toList).toArray⟩
set_option maxHeartbeats 400000 in
set_option maxRecDepth 100000 in
theorem isB_of_own {w : World} {B : Nat} {v : Value} {bs : List UInt8} (ho : w.ownsRow B 5 1 v bs.length (outs bs)) : ∃ a n c, v = .slice a n c ∧ IsB w w.heap.size a n c bs := by
  have hc := fun g hg => ho.cells (g := g) hg
  have hlt := ho.lt
  rcases ho.2 with ⟨rfl, hn⟩ | ⟨g, cap, cur, rfl, _, hg, hnc, hcm, _, _⟩
  · have : bs = [] := List.length_eq_zero_iff.1 hn
    subst this
    exact ⟨none, 0, 0, rfl, .nil _ _⟩
  · refine ⟨_, _, _, rfl, rfl, hnc, by simpa [maxLen] using hcm, g, 0, fun _ => ⟨rfl, (hlt g rfl).2⟩, fun i hi => ?_⟩
    have := hc g rfl i (.int .u8 (bs[i].toNat : Int)) (by simp [outs, hi])
    rw [add_at] at this; exact this
theorem plain_snoc (l : List UInt8) (j : Nat) (h : j < l.length) : (l.take (j + 1)).map low = (l.take j).map low ++ [low l[j]] := by
  rw [take_snoc l j h, List.map_append]; rfl
theorem low_nat (b : UInt8) : (((low b).toNat : Nat) : Int) = (b.toNat : Int) % 128 := by
  have h : (low b).toNat = b.toNat % 128 := by
    unfold low
    rw [UInt8.toNat_ofNat']
    omega
  rw [h]; omega
/-- At the head of a round. -/
structure PH (w wr : World) (s : ByteArray) (j : Nat) (u : Value) : Prop where
  own : wr.ownsRow w.heap.size 5 1 u j (outs ((s.data.toList.take j).map low))
  below : Below w.heap.size w wr
set_option maxHeartbeats 4000000 in
set_option maxRecDepth 100000 in
theorem plain_any (w : World) (s : ByteArray) (hs : s.size ≤ 140737488355328) :
    Calls Tryd.prog 77 #[.string s] w fun e w' => e = .returned (.string (plainS s)) ∧ Below w.heap.size w w' := by
  obtain ⟨i0, hi0, hz0, hz1, hz2⟩ := info_parts ginfo8
  have hsz : s.data.toList.length = s.size := Array.length_toList
  have HS := Lib.hid hsz
  clear hsz
  go_enter Tryd.func77, Tryd.ntmps77
  go_wp2_with fail
  go_loopw [3, 4] (fun u i wr => ∃ (j : Nat) (a : Option Addr) (m c : Nat), j ≤ 40 ∧ j ≤ s.size ∧ i = .int .i64 j ∧ u = .slice a m c ∧ PH w wr s j (.slice a m c)) (fun _ i _ => 40 - (intOf i).toNat)
  case atStart => exact ⟨0, none, 0, 0, by omega, Nat.zero_le _, rfl, rfl, ⟨⟨by simp [outs], .inl ⟨rfl, rfl⟩⟩, Below.refl _ _⟩⟩
  case round =>
    obtain ⟨j, a, m, c, hj, hj2, rfl, rfl, L⟩ := hrel
    have hlen := HS.out
    by_cases h1 : j < s.size
    · by_cases h2 : j < 40
      · have hgb : s.data.toList[j]'(by omega) = s[j]'h1 := by simp [ByteArray.getElem_eq_getElem_data]
        have hsn := plain_snoc s.data.toList j (by omega)
        rw [hgb] at hsn
        have HSN := Lib.hid hsn
        have hrlt : ∀ b, (Value.slice a m c).ownBlock = some b → w.heap.size ≤ b ∧ b < wr.heap.size := L.own.lt
        have hb := L.below.size
        have LL := Lib.hid L
        have ho := L.own
        clear hsn hgb L
        go_wp2_with (at_builtin; refine wpList_append_lies _ rfl (.tmp 15) (.tmp 20) 22 (by rfl) w.heap.size 5 i0 _ 1 1 Tryd.underlying22 hi0 hz0 hz1 hz2 rfl (by omega) (.slice a m c) j (outs ((s.data.toList.take j).map low)) (by rfl) (ho.alloc _) ⟨wr.heap.size, 0, none⟩ 1 1 [.int .u8 ((s[j]'h1).toNat % 128 : Int)] (by rfl) (by rfl) (World.news_of_block (cs := #[.int .u8 ((s[j]'h1).toNat % 128 : Int)]) (t := 5) (fr := (0, 0)) (heap_alloc_new wr _)) (by simp [Value.oneCell']) (by omega) (by unfold maxLen; omega) (by omega) (by simp; omega) (wr.heap.size + 1) (by simp) ?_; intro g cap w7 hown7 hgrow7 hat7 hlt7)
        go_roundw
        case rel =>
          refine ⟨j + 1, some ⟨g, 0, none⟩, j + 1, cap, by omega, by omega, by go_num, rfl, ⟨?_, ?_⟩⟩
          · rw [HSN.out, outs_append]
            have e : outs [low (s[j]'h1)] = [.int .u8 ((s[j]'h1).toNat % 128 : Int)] := by simp [outs, low_nat]
            rw [e]; exact hown7
          · exact (LL.out.below.trans (((Below.refl _ _).alloc (Nat.le_refl _) _).mono hb)).trans (grown_below hgrow7 (fun k hk => (hrlt k hk).1) (by simp; omega))
        case measure => simp [intOf]; omega
      · obtain ⟨a2, n2, c2, hv2, hI⟩ := isB_of_own (bs := (s.data.toList.take j).map low) (by rw [List.length_map, List.length_take, Nat.min_eq_left (by omega)]; exact L.own)
        injection hv2 with h3 h4 h5; subst h3 h4 h5
        have hcv := conv_isB hI
        have LL := Lib.hid L
        have hp : ((s.data.toList.take j).map low) = plainL s.data.toList := by rw [plainL, show j = 40 by omega]
        rw [hp] at hcv
        clear hI L hp
        go_wp2_with fail
        go_returns
        exact ⟨rfl, LL.out.below⟩
    · obtain ⟨a2, n2, c2, hv2, hI⟩ := isB_of_own (bs := (s.data.toList.take j).map low) (by rw [List.length_map, List.length_take, Nat.min_eq_left (by omega)]; exact L.own)
      injection hv2 with h3 h4 h5; subst h3 h4 h5
      have hcv := conv_isB hI
      have LL := Lib.hid L
      have hp : ((s.data.toList.take j).map low) = plainL s.data.toList := by rw [plainL, List.take_of_length_le (by omega), List.take_of_length_le (by omega)]
      rw [hp] at hcv
      clear hI L hp
      go_wp2_with fail
      go_returns
      exact ⟨rfl, LL.out.below⟩
end Go.Proofs.YtcfbnmobfcabiaaDoor
namespace Go.Proofs.YtcfbnmobfcabiaaDoor
open Go.RowKit
/-- How many fields stand ahead of a key. -/
def fieldK (o : List (ByteArray × V)) (key : ByteArray) : Nat := (o.takeWhile fun f => Op.bytesLess f.1.toList key.toList).length
def fieldIs (o : List (ByteArray × V)) (key : ByteArray) : Bool := match o[fieldK o key]? with
  | some f => f.1.toList == key.toList
  | none => false
theorem fieldK_at (o : List (ByteArray × V)) (key : ByteArray) (j : Nat) (h : ∀ i (hi : i < o.length), i < j → Op.bytesLess (o[i]'hi).1.toList key.toList = true) (hj : j ≤ o.length) (he : j = o.length ∨ ∃ hi : j < o.length, Op.bytesLess (o[j]'hi).1.toList key.toList = false) : fieldK o key = j := by
  unfold fieldK
  induction o generalizing j with
  | nil => simp at hj; subst hj; rfl
  | cons f o ih =>
    cases j with
    | zero =>
      rcases he with he | ⟨hi, he⟩
      · simp at he
      · simp only [List.getElem_cons_zero] at he
        simp [he]
    | succ j =>
      have h0 := h 0 (by simp) (by omega)
      simp only [List.getElem_cons_zero] at h0
      have := ih j (fun i hi hij => by have := h (i + 1) (by simpa using hi) (by omega); simpa using this) (by simpa using hj) (by
        rcases he with he | ⟨hi, he⟩
        · left; simpa using he
        · right; exact ⟨by simpa using hi, by simpa using he⟩)
      simp [h0, this]
theorem belowN {B : Nat} {a w : World} (h : Below B a w) (n : Nat) : Below B a (w.drewN n) := h.trans ⟨rfl, rfl, rfl, Nat.le_refl _, fun _ _ => rfl⟩
set_option maxHeartbeats 4000000 in
set_option maxRecDepth 100000 in
theorem field_any (w : World) (o : List (ByteArray × V)) (key : ByteArray) (k n : Int) (s : ByteArray) (la : Option Addr) (ll lc : Nat) (oa : Option Addr) (ol oc : Nat) (h : IsFields w w.heap.size o oa ol oc) :
    Calls Tryd.prog 93 #[.agg #[.int .u8 k, .int .i64 n, .string s, .slice la ll lc, .slice oa ol oc], .string key] w fun e w' => e = .returned (.tuple #[.int .i64 (fieldK o key : Int), .bool (fieldIs o key)]) ∧ Below w.heap.size w w' := by
  have hlen := h.len
  have HI := Lib.hid h
  have HL := Lib.hid hlen
  have k1 := h.max; have k2 := h.few
  have HB0 := Lib.hid (BC.start w #[.int .u8 k, .int .i64 n, .string s, .slice la ll lc, .slice oa ol oc] 28)
  clear h hlen
  go_enter Tryd.func93, Tryd.ntmps93
  go_wp2_with fail
  go_loopw [6] (fun i wr => BC wr w.heap.size [.int .u8 k, .int .i64 n, .string s, .slice la ll lc, .slice oa ol oc] ∧ Below w.heap.size w wr ∧ ∃ j : Nat, j ≤ ol ∧ i = .int .i64 j ∧ Hid (∀ i (hi : i < o.length), i < j → Op.bytesLess (o[i]'hi).1.toList key.toList = true)) (fun i _ => ol - (intOf i).toNat)
  case atStart => exact ⟨HB0.out, (Below.refl _ _).alloc (Nat.le_refl _) _, 0, Nat.zero_le _, rfl, Lib.hid (fun i hi hj => by omega)⟩
  case round =>
    obtain ⟨hbc, hbl, j, hj, rfl, hall⟩ := hrel
    have c4 := hbc.at_ 4 _ rfl
    have zs := hbc.lt
    have HBC := Lib.hid hbc
    have HBL := Lib.hid hbl
    by_cases hlt : j < ol
    · obtain ⟨b, o', f, hp, rfl, hbB, hkey, hks, _⟩ := (HI.out.keep hbl).get hlt
      have hbw : b < wr.heap.size := World.block_lt_of_cell? wr _ hkey
      obtain ⟨lb, hlb⟩ : ∃ lb, Op.bytesLess (o[j]'hp).1.toList key.toList = lb := ⟨_, rfl⟩
      cases lb with
      | true =>
        have HLB := Lib.hid hlb
        clear hbc hbl
        go_wp2_with fail
        go_roundw
        case rel => exact ⟨HBC.out, HBL.out, j + 1, by omega, by go_num, Lib.hid (fun i hi hij => by
          by_cases e : i = j
          · subst e; exact HLB.out
          · exact hall.out i hi (by omega))⟩
        case measure => simp [intOf]; omega
      | false =>
        obtain ⟨eb, heb⟩ : ∃ eb, ((o[j]'hp).1.toList == key.toList) = eb := ⟨_, rfl⟩
        have hk : fieldK o key = j := fieldK_at o key j hall.out (by omega) (.inr ⟨hp, hlb⟩)
        have hi : fieldIs o key = eb := by
          rw [fieldIs, hk, List.getElem?_eq_getElem hp]; exact heb
        have HK := Lib.hid hk
        have HII := Lib.hid hi
        clear hbc hbl hk hi
        go_wp2_with fail
        go_quiet (fail)
        go_wp2_with fail
        go_returns
        exact ⟨by rw [HK.out, HII.out]; rfl, belowN HBL.out _⟩
    · have hj2 : j = ol := by omega
      subst hj2
      have hk : fieldK o key = j := fieldK_at o key j hall.out (by rw [HL.out]; exact Nat.le_refl _) (.inl HL.out)
      have hi : fieldIs o key = false := by
        rw [fieldIs, hk, List.getElem?_eq_none (by rw [HL.out]; exact Nat.le_refl _)]
      have HK := Lib.hid hk
      have HII := Lib.hid hi
      clear hbc hbl hk hi
      go_wp2_with fail
      go_quiet (fail)
      go_wp2_with fail
      go_returns
      exact ⟨by rw [HK.out, HII.out]; rfl, belowN HBL.out _⟩
end Go.Proofs.YtcfbnmobfcabiaaDoor
namespace Go.Proofs.YtcfbnmobfcabiaaDoor
open Go.RowKit
def withF (o : List (ByteArray × V)) (key : ByteArray) (x : V) : List (ByteArray × V) := o.take (fieldK o key) ++ (key, x) :: o.drop (if fieldIs o key = true then fieldK o key + 1 else fieldK o key)
theorem fieldK_le (o : List (ByteArray × V)) (key : ByteArray) : fieldK o key ≤ o.length := (List.takeWhile_sublist _).length_le
theorem fieldIs_lt {o : List (ByteArray × V)} {key : ByteArray} (h : fieldIs o key = true) : fieldK o key < o.length := by
  unfold fieldIs at h
  by_cases hq : fieldK o key < o.length
  · exact hq
  · rw [List.getElem?_eq_none (by omega)] at h; cases h
/-- The cells of fields in memory. -/
theorem IsFields.cells {w : World} {B : Nat} {o : List (ByteArray × V)} {a : Option Addr} {n c : Nat} (h : IsFields w B o a n c) :
    ∃ (cs : List (ByteArray × VC)) (b off : Nat), cs.length = o.length ∧ (0 < n → a = some ⟨b, off, none⟩ ∧ b < B) ∧ (∀ j u, (cs.flatMap fcells)[j]? = some u → w.cell? ⟨b, off + j, none⟩ = some u) ∧ ∀ i, i < o.length → PF o cs w B i := by
  obtain ⟨h1, h2, h3, h4, b, off, f, h5, h6⟩ := h
  have hlen : ((List.range o.length).map fun i => ((o.getD i (.empty, V.none)).1, f i)).length = o.length := by simp
  have hget : ∀ i (hi : i < o.length), ((List.range o.length).map fun i => ((o.getD i (.empty, V.none)).1, f i))[i]? = some (o[i].1, f i) := by
    intro i hi
    simp [hi, List.getD_eq_getElem?_getD]
  refine ⟨(List.range o.length).map fun i => ((o.getD i (.empty, V.none)).1, f i), b, off, hlen, h5, fun j u hj => ?_, fun i hi h => ?_⟩
  · have hjl : j < o.length * 6 := by
      have := (List.getElem?_eq_some_iff.1 hj).1
      rw [flat_length fcells 6 (fun _ => rfl), hlen] at this
      exact this
    have hi : j / 6 < o.length := by omega
    have hd : j = j / 6 * 6 + j % 6 := by omega
    rw [hd, flat_get fcells 6 (fun _ => rfl) _ (j / 6) (j % 6) (by rw [hlen]; exact hi) (by omega)] at hj
    have he : ((List.range o.length).map fun i => ((o.getD i (.empty, V.none)).1, f i))[j / 6]'(by rw [hlen]; exact hi) = (o[j / 6].1, f (j / 6)) := by
      have := hget (j / 6) hi
      rw [List.getElem?_eq_getElem (by rw [hlen]; exact hi)] at this
      exact Option.some.inj this
    rw [he] at hj
    obtain ⟨g1, g2, g3, g4⟩ := h6 (j / 6) hi
    have hm : j % 6 < 6 := by omega
    rw [hd, ← Nat.add_assoc]
    obtain ⟨m, hmm⟩ : ∃ m, j % 6 = m := ⟨_, rfl⟩
    rw [hmm] at hj hm ⊢
    match m, hm with
    | 0, _ => rw [← hj]; exact g1
    | 1, _ => rw [← hj]; exact g3.c0
    | 2, _ => rw [← hj]; exact g3.c1
    | 3, _ => rw [← hj]; exact g3.c2
    | 4, _ => rw [← hj]; exact g3.c3
    | 5, _ => rw [← hj]; exact g3.c4
  · obtain ⟨g1, g2, g3, g4⟩ := h6 i hi
    have he : ((List.range o.length).map fun i => ((o.getD i (.empty, V.none)).1, f i)).getD i fzero = (o[i].1, f i) := by
      rw [List.getD_eq_getElem?_getD, hget i hi]; rfl
    rw [he]
    exact ⟨rfl, g2, g4⟩
/-- Fields in a row of their own, their children seen. -/
theorem isFields_of_own {w : World} {B0 B1 : Nat} {v : Value} {l : List (ByteArray × V)} {cs : List (ByteArray × VC)} (hown : w.ownsRow B1 78 6 v l.length (cs.flatMap fcells)) (hB : B0 ≤ B1) (hl : cs.length = l.length) (hels : ∀ i, i < l.length → PF l cs (only (Free B0 v) w) w.heap.size i) (hfew : l.length ≤ 1466015503701) :
    ∃ a n c, v = .slice a n c ∧ IsFields (only (fun b => B0 ≤ b) w) w.heap.size l a n c ∧ (a = none → c = 0) := by
  have hown2 : w.ownsRow B0 78 6 v l.length (cs.flatMap fcells) := by
    refine ⟨hown.1, ?_⟩
    rcases hown.2 with h | ⟨g, cap, cur, h1, h2, h3⟩
    · exact .inl h
    · exact .inr ⟨g, cap, cur, h1, Nat.le_trans hB h2, h3⟩
  have hv : ∃ a n c, v = .slice a n c ∧ (a = none → c = 0) := by
    rcases hown.2 with ⟨h, _⟩ | ⟨g, cap, cur, h1, _⟩
    · exact ⟨_, _, _, h, fun _ => rfl⟩
    · exact ⟨_, _, _, h1, fun h => by cases h⟩
  obtain ⟨a, n, c, rfl, hz⟩ := hv
  have hrow : RowF w B0 (.slice a n c) l cs := ⟨hown2, hels⟩
  have := (RowF.val hrow (lo := B0) hl (Nat.le_refl _) 5 (by omega) (by omega) hfew).lists
  exact ⟨a, n, c, rfl, this.2.2.2.2.2, hz⟩
/-- What With comes to. -/
def WithPost (w : World) (B0 : Nat) (l : List (ByteArray × V)) (e : Ending) (w' : World) : Prop :=
  (∃ a n c, e = .returned (.slice a n c) ∧ IsFields (only (fun b => B0 ≤ b) w') w'.heap.size l a n c ∧ (a = none → c = 0)) ∧ Below w.heap.size w w'
end Go.Proofs.YtcfbnmobfcabiaaDoor
namespace Go.Proofs.YtcfbnmobfcabiaaDoor
open Go.RowKit
theorem flat_take_get {cs : List (ByteArray × VC)} {k j : Nat} {u : Value} (h : ((cs.take k).flatMap fcells)[j]? = some u) : (cs.flatMap fcells)[j]? = some u := by
  have e : cs.flatMap fcells = (cs.take k).flatMap fcells ++ (cs.drop k).flatMap fcells := by rw [← List.flatMap_append, List.take_append_drop]
  rw [e, List.getElem?_append_left (List.getElem?_eq_some_iff.1 h).1]; exact h
theorem flat_drop_get {cs : List (ByteArray × VC)} {k j : Nat} {u : Value} (hk : k ≤ cs.length) (h : ((cs.drop k).flatMap fcells)[j]? = some u) : (cs.flatMap fcells)[k * 6 + j]? = some u := by
  have e : cs.flatMap fcells = (cs.take k).flatMap fcells ++ (cs.drop k).flatMap fcells := by rw [← List.flatMap_append, List.take_append_drop]
  have hl : ((cs.take k).flatMap fcells).length = k * 6 := by rw [flat_length fcells 6 (fun _ => rfl), List.length_take, Nat.min_eq_left hk]
  rw [e, List.getElem?_append_right (by omega), hl, Nat.add_sub_cancel_left]; exact h
theorem PF.with_ {o : List (ByteArray × V)} {cs : List (ByteArray × VC)} {W : World} {B : Nat} {key : ByteArray} {x : V} {cx : VC} {k k' : Nat} (hl : cs.length = o.length) (h : ∀ i, i < o.length → PF o cs W B i) (hx : IsVal W B x cx) (hks : key.size ≤ 140737488355328) (hk : k ≤ o.length) (hk' : k' ≤ o.length) :
    ∀ i, i < (o.take k ++ (key, x) :: o.drop k').length → PF (o.take k ++ (key, x) :: o.drop k') (cs.take k ++ (key, cx) :: cs.drop k') W B i := by
  intro i _ hi
  have l1 : (o.take k).length = k := by rw [List.length_take, Nat.min_eq_left hk]
  have l2 : (cs.take k).length = k := by rw [List.length_take, Nat.min_eq_left (by omega)]
  rw [List.getD_eq_getElem?_getD]
  by_cases e1 : i < k
  · have e2 : (cs.take k ++ (key, cx) :: cs.drop k')[i]? = cs[i]? := by
      rw [List.getElem?_append_left (by omega), List.getElem?_take_of_lt e1]
    have e3 : (o.take k ++ (key, x) :: o.drop k')[i] = o[i]'(by omega) := by
      rw [List.getElem_append_left (by omega), List.getElem_take]
    rw [e2, e3, ← List.getD_eq_getElem?_getD]
    exact h i (by omega) (by omega)
  · by_cases e4 : i = k
    · subst e4
      have e2 : (cs.take i ++ (key, cx) :: cs.drop k')[i]? = some (key, cx) := by
        rw [List.getElem?_append_right (by omega), l2, Nat.sub_self]; rfl
      have e3 : (o.take i ++ (key, x) :: o.drop k')[i] = (key, x) := by
        rw [List.getElem_append_right (by omega)]; simp [l1]
      rw [e2, e3]
      exact ⟨rfl, hks, hx⟩
    · obtain ⟨m, rfl⟩ : ∃ m, i = k + 1 + m := ⟨i - k - 1, by omega⟩
      rw [List.length_append, List.length_cons, List.length_drop, l1] at hi
      have e2 : (cs.take k ++ (key, cx) :: cs.drop k')[k + 1 + m]? = cs[k' + m]? := by
        rw [List.getElem?_append_right (by omega), l2, show k + 1 + m - k = m + 1 by omega, List.getElem?_cons_succ, List.getElem?_drop]
      have e3 : (o.take k ++ (key, x) :: o.drop k')[k + 1 + m]'(by rw [List.length_append, List.length_cons, List.length_drop, l1]; omega) = o[k' + m]'(by omega) := by
        rw [List.getElem_append_right (by omega)]
        simp only [l1, show k + 1 + m - k = m + 1 by omega, List.getElem_cons_succ, List.getElem_drop]
      rw [e2, e3, ← List.getD_eq_getElem?_getD]
      exact h (k' + m) (by omega) (by omega)
end Go.Proofs.YtcfbnmobfcabiaaDoor
namespace Go.Proofs.YtcfbnmobfcabiaaDoor
open Go.RowKit
theorem IsFields.sub {w w' : World} {B : Nat} {l : List (ByteArray × V)} {a : Option Addr} {n c : Nat} (hs : Shows w w' B) (h : IsFields w B l a n c) : IsFields w' B l a n c := by
  obtain ⟨h1, h2, h3, h4, b, o, f, h5, h6⟩ := h
  refine ⟨h1, h2, h3, h4, b, o, f, h5, fun i hi => ?_⟩
  have hB := (h5 (by omega)).2
  obtain ⟨g1, g2, g3, g4⟩ := h6 i hi
  exact ⟨hs _ _ _ hB g1, g2, g3.sub hs hB, g4.sub hs⟩
theorem fcells_one (key : ByteArray) (cx : VC) : ∀ u ∈ fcells (key, cx), u.oneCell' = true := by simp [fcells, Value.oneCell']
theorem flat_one (cs : List (ByteArray × VC)) : ∀ u ∈ cs.flatMap fcells, u.oneCell' = true := by
  intro u hu
  obtain ⟨c, _, hc⟩ := List.mem_flatMap.1 hu
  exact fcells_one c.1 c.2 u hc
set_option maxHeartbeats 8000000 in
set_option maxRecDepth 100000 in
theorem with_ff (w : World) (B0 : Nat) (hB0 : B0 ≤ w.heap.size) (o : List (ByteArray × V)) (b off ol oc : Nat) (ho : IsFields (only (fun k => B0 ≤ k) w) w.heap.size o (some ⟨b, off, none⟩) ol oc) (key : ByteArray) (hks : key.size ≤ 140737488355328) (x : V) (cx : VC) (hx : IsVal (only (fun k => B0 ≤ k) w) w.heap.size x cx) (hpos : 0 < ol) (hfew : ol ≤ 1000000) (his : fieldIs o key = false) (hke : fieldK o key < oc) :
    Calls Tryd.prog 78 #[.slice (some ⟨b, off, none⟩) ol oc, .string key, .agg #[.int .u8 cx.k, .int .i64 cx.n, .string cx.s, .slice cx.la cx.ll cx.lc, .slice cx.oa cx.ol cx.oc]] w (WithPost w B0 (withF o key x)) := by
  obtain ⟨i0, hi0, hz0, hz1, hz2⟩ := info_parts ginfoFR
  have hlen := ho.len
  have hcap := ho.cap
  have hmax := ho.max
  obtain ⟨cs, b2, off2, hcl, hab, hcell, hpf⟩ := ho.cells
  have HCELL : Hid (∀ W, Below w.heap.size w W → ∀ j u, (cs.flatMap fcells)[j]? = some u → W.cell? ⟨b, off + j, none⟩ = some u) := by
    intro W hW j u hj
    have hjl := (List.getElem?_eq_some_iff.1 hj).1
    rw [flat_length fcells 6 (fun _ => rfl), hcl, ← hlen] at hjl
    obtain ⟨e, hb2⟩ := hab (by omega)
    injection e with e; injection e with e1 e2
    subst e1 e2
    exact keep_cell hW (only_cell (hcell j u hj)).2 hb2
  obtain ⟨k, hk⟩ : ∃ k, fieldK o key = k := ⟨_, rfl⟩
  rw [hk] at hke
  have hkl : k ≤ ol := by rw [← hk, hlen]; exact fieldK_le o key
  have hkl2 := hkl
  have hkc : k ≤ cs.length := by rw [hcl, ← hlen]; exact hkl
  have hkc2 : k ≤ cs.length := by rw [hcl, ← hlen]; omega
  have HF : Hid (∀ W, Below w.heap.size w W → Calls Tryd.prog 93 #[.agg #[.int .u8 0, .int .i64 0, .string { data := #[] }, .slice none 0 0, .slice (some ⟨b, off, none⟩) ol oc], .string key] W fun e w' => e = .returned (.tuple #[.int .i64 (k : Int), .bool false]) ∧ Below W.heap.size W w') := by
    intro W hW
    have hof : IsFields W W.heap.size o (some ⟨b, off, none⟩) ol oc := (IsFields.keep (IsFields.sub (shows_only (fun k => B0 ≤ k) w _) ho) hW).more hW.size
    have := field_any W o key 0 0 { data := #[] } none 0 0 (some ⟨b, off, none⟩) ol oc hof
    rw [hk, his] at this; exact this
  have hwf : withF o key x = o.take k ++ (key, x) :: o.drop (k) := by rw [withF, his, hk]; rfl
  rw [hwf]
  have HBX := Lib.hid (BC.start w #[.int .u8 cx.k, .int .i64 cx.n, .string cx.s, .slice cx.la cx.ll cx.lc, .slice cx.oa cx.ol cx.oc] 28)
  have HAL := Lib.hid ((Below.refl _ _).alloc (Nat.le_refl _) (.cells #[.int .u8 cx.k, .int .i64 cx.n, .string cx.s, .slice cx.la cx.ll cx.lc, .slice cx.oa cx.ol cx.oc] 28) : Below w.heap.size w _)
  have HX := Lib.hid hx
  have HPF := Lib.hid hpf
  have HCL := Lib.hid hcl
  have HLEN := Lib.hid hlen
  obtain ⟨R, hR⟩ : ∃ R, WithPost w B0 (o.take k ++ (key, x) :: o.drop (k)) = R := ⟨_, rfl⟩
  rw [hR]
  have HR := Lib.hid hR
  obtain ⟨XA, hXA⟩ : ∃ XA, (cs.take k).flatMap fcells = XA := ⟨_, rfl⟩
  obtain ⟨XB, hXB⟩ : ∃ XB, (cs.drop (k)).flatMap fcells = XB := ⟨_, rfl⟩
  have hla : XA.length = k * 6 := by rw [← hXA, flat_length fcells 6 (fun _ => rfl), List.length_take, Nat.min_eq_left hkc]
  have hlb : XB.length = (ol - (k)) * 6 := by rw [← hXB, flat_length fcells 6 (fun _ => rfl), List.length_drop, hcl, ← hlen]
  have HA1 : Hid (∀ u ∈ XA, u.oneCell' = true) := by unfold Hid; rw [← hXA]; exact flat_one _
  have HB1 : Hid (∀ u ∈ XB, u.oneCell' = true) := by unfold Hid; rw [← hXB]; exact flat_one _
  have HCA : Hid (∀ W, Below w.heap.size w W → ∀ j u, XA[j]? = some u → W.cell? ((⟨b, off, none⟩ : Addr).add j) = some u) := by
    intro W hW j u hj
    rw [← hXA] at hj
    rw [add_at]; exact HCELL.out W hW j u (flat_take_get hj)
  have HCB : Hid (∀ W, Below w.heap.size w W → ∀ j u, XB[j]? = some u → W.cell? ((⟨b, off + (k) * 6, none⟩ : Addr).add j) = some u) := by
    intro W hW j u hj
    rw [← hXB] at hj
    rw [add_at, Nat.add_assoc]; exact HCELL.out W hW _ u (flat_drop_get hkc2 hj)
  have HXA := Lib.hid hXA
  have HXB := Lib.hid hXB
  clear ho hab hcell hk his hx hpf hcl hlen hwf hR hXA hXB hkc hkc2
  go_enter Tryd.func78, Tryd.ntmps78
  go_wp2_with fail
  refine (HF.out _ HAL.out).mono ?_
  rintro e w1 ⟨rfl, hb1⟩
  have bl1 := HAL.out.trans (hb1.mono (by simp))
  have HBX1 := Lib.hid (HBX.out.keep hb1 (by simp))
  have zs1 : w.heap.size < w1.heap.size := HBX1.out.lt
  have HBL1 := Lib.hid bl1
  have ho1 : w1.ownsRow (w.heap.size + 1) 78 6 (.slice none 0 0) 0 [] := ⟨rfl, .inl ⟨rfl, rfl⟩⟩
  clear hb1 bl1
  go_wp2_with (first
    | (at_builtin; refine wpList_append_own _ rfl (.tmp 17) (.tmp 20) 26 (by rfl) (w.heap.size + 1) 78 i0 _ 6 96 Tryd.underlying26 hi0 hz0 hz1 hz2 rfl (by omega) (.slice none 0 0) 0 [] (by rfl) ho1 ⟨b, off, none⟩ k oc XA (by rfl) hla (HCA.out _ HBL1.out) HA1.out (by unfold maxLen; omega) (by omega) (by omega) ?_; intro v1 w2 hown1 hgrow1 _; have b12 : Below (w.heap.size + 1) w1 w2 := grown_below hgrow1 (fun k hk => by simp [Value.ownBlock] at hk) (by omega); have BX2 := HBX1.out.keep b12 (by omega); have x0 := BX2.at_ 0 _ rfl; have x1 := BX2.at_ 1 _ rfl; have x2 := BX2.at_ 2 _ rfl; have x3 := BX2.at_ 3 _ rfl; have x4 := BX2.at_ 4 _ rfl; have zs2 := BX2.lt; have HBL2 := Lib.hid (HBL1.out.trans (b12.mono (by omega))); have HO1 := Lib.hid hown1; have hrl : ∀ g, v1.ownBlock = some g → w.heap.size + 1 ≤ g ∧ g < w2.heap.size := hown1.lt; have ho2 := hown1.alloc (.cells #[.string key, .int .u8 cx.k, .int .i64 cx.n, .string cx.s, .slice cx.la cx.ll cx.lc, .slice cx.oa cx.ol cx.oc] 78); have hnw : ∀ j u, (fcells (key, cx))[j]? = some u → (w2.alloc (.cells #[.string key, .int .u8 cx.k, .int .i64 cx.n, .string cx.s, .slice cx.la cx.ll cx.lc, .slice cx.oa cx.ol cx.oc] 78)).cell? ((⟨w2.heap.size, 0, none⟩ : Addr).add j) = some u := World.news_of_block (t := 78) (fr := (0, 0)) (heap_alloc_new w2 (.cells #[.string key, .int .u8 cx.k, .int .i64 cx.n, .string cx.s, .slice cx.la cx.ll cx.lc, .slice cx.oa cx.ol cx.oc] 78)); have HNW := Lib.hid hnw; clear hnw hown1 hgrow1 BX2 b12)
    | (at_builtin; refine wpList_append_own _ rfl (.tmp 22) (.tmp 26) 26 (by rfl) (w.heap.size + 1) 78 i0 _ 6 96 Tryd.underlying26 hi0 hz0 hz1 hz2 rfl (by omega) v1 (0 + k) ([] ++ XA) (by rfl) ho2 ⟨w2.heap.size, 0, none⟩ 1 1 (fcells (key, cx)) (by rfl) (by rfl) HNW.out (fcells_one key cx) (by unfold maxLen; omega) (by omega) (by simp; omega) ?_; intro v2 w4 hown2 hgrow2 _; have b24 : Below (w.heap.size + 1) w2 w4 := (((Below.refl w2.heap.size w2).alloc (Nat.le_refl _) (.cells #[.string key, .int .u8 cx.k, .int .i64 cx.n, .string cx.s, .slice cx.la cx.ll cx.lc, .slice cx.oa cx.ol cx.oc] 78)).mono (by omega)).trans (grown_below hgrow2 (fun k hk => (hrl k hk).1) (by simp; omega)); have HBL4 := Lib.hid (HBL2.out.trans (b24.mono (by omega))); have zs4 : w.heap.size < w4.heap.size := Nat.lt_of_lt_of_le zs2 b24.size; have hrl2 : ∀ g, v2.ownBlock = some g → w.heap.size + 1 ≤ g ∧ g < w4.heap.size := hown2.lt; have HO2 := Lib.hid hown2; clear hgrow2 b24 hown2)
    | (at_builtin; refine wpList_append_own _ rfl (.tmp 31) (.tmp 34) 26 (by rfl) (w.heap.size + 1) 78 i0 _ 6 96 Tryd.underlying26 hi0 hz0 hz1 hz2 rfl (by omega) v2 (0 + k + 1) ([] ++ XA ++ fcells (key, cx)) (by rfl) HO2.out ⟨b, off + (k) * 6, none⟩ (ol - (k)) (oc - (k)) XB (by rfl) (by omega) (HCB.out _ HBL4.out) HB1.out (by unfold maxLen; omega) (by omega) (by omega) ?_; intro v3 w5 hown3 hgrow3 _; have b45 : Below (w.heap.size + 1) w4 w5 := grown_below hgrow3 (fun k hk => (hrl2 k hk).1) (by omega); have HBL5 := Lib.hid (HBL4.out.trans (b45.mono (by omega))); have HO3 := Lib.hid hown3; clear hgrow3 b45 hown3))
  rw [← HR.out]
  have hcat : [] ++ XA ++ fcells (key, cx) ++ XB = (cs.take k ++ (key, cx) :: cs.drop (k)).flatMap fcells := by rw [← HXA.out, ← HXB.out]; simp
  have hll : (o.take k ++ (key, x) :: o.drop (k)).length = 0 + k + 1 + (ol - (k)) := by
    rw [List.length_append, List.length_cons, List.length_drop, List.length_take, ← HLEN.out, Nat.min_eq_left hkl]; omega
  have hown := HO3.out
  rw [hcat, ← hll] at hown
  have hlt3 := hown.lt
  have hsh : Shows (only (fun k => B0 ≤ k) w) (only (Free B0 v3) w5) w.heap.size := shows_step fun q hq hl => ⟨⟨hq, fun e => by have := (hlt3 q e.symm).1; omega⟩, HBL5.out.block q hl⟩
  obtain ⟨a, n, c, hv, hf, hz⟩ := isFields_of_own (B0 := B0) (B1 := w.heap.size + 1) hown (by omega) (by rw [List.length_append, List.length_append, List.length_cons, List.length_cons, List.length_drop, List.length_drop, List.length_take, List.length_take, HCL.out])
    (PF.with_ HCL.out (fun i hi => PF.closed o cs _ _ _ _ i hsh HBL5.out.size (HPF.out i hi)) ((HX.out.sub hsh).more HBL5.out.size) hks (by rw [← HLEN.out]; exact hkl) (by rw [← HLEN.out]; omega)) (by rw [hll]; omega)
  exact ⟨⟨a, n, c, by rw [hv], hf, hz⟩, HBL5.out⟩
end Go.Proofs.YtcfbnmobfcabiaaDoor
namespace Go.Proofs.YtcfbnmobfcabiaaDoor
open Go.RowKit
theorem run_append_none {P : Program} (w : World) (base : Nat) (t ty e : TypeId) (i : TypeInfo) (size : Nat) (ht : P.underlying t = some (.slice e)) (hi : P.info? e = some i)
    (v : Value) (n : Nat) (xs : List Value) (hown : w.ownsRow base e size v n xs) :
    (Builtin.append_ #[t, t] ty #[v, .slice none 0 0]).run P w = .ok v w := by
  rcases hown.2 with ⟨rfl, rfl⟩ | ⟨g, cap, cur, rfl, hbg, hg, hnc, hcm, hcs, htake⟩
  · simp [Builtin.append_, run_underlying ht, sizeOf, typeInfo, hi, Builtin.lenOf, Builtin.firstCells]
  · simp [Builtin.append_, run_underlying ht, sizeOf, typeInfo, hi, Builtin.lenOf, Builtin.firstCells, storeCells, hnc]
theorem wpList_append_none {P : Program} (w : World) {ops : Array Oper} {rest : List Oper} {o : Oper} {a : Act} {Q : Exit → Act → World → Prop} (hgd : o.guard = none) (s x : Operand) (t : TypeId)
    (ho : o.op = .call { callee := .builtin .append, args := #[s, x], argTypes := #[t, t] })
    (base : Nat) (e : TypeId) (i : TypeInfo) (size : Nat) (ht : P.underlying t = some (.slice e)) (hi : P.info? e = some i)
    (v : Value) (n : Nat) (xs : List Value) (hs : a.eval s = v) (hown : w.ownsRow base e size v n xs)
    (hx : a.eval x = .slice none 0 0)
    (h : wpList P ops Q rest (a.put o.dst v) w) : wpList P ops Q (o :: rest) a w :=
  wpList_plain hgd fun _ hK => by
    have hr := run_append_none (P := P) w base t o.type e i size ht hi v n xs hown
    unfold Oper.wp execOp
    simp only [ho, resolve, invoke, builtin, Sem.run_bind, Sem.run_pure, Result.andThen_ok, List.map_toArray, List.map_cons, List.map_nil, hs, hx, hr]
    exact hK _ _ h
end Go.Proofs.YtcfbnmobfcabiaaDoor
namespace Go.Proofs.YtcfbnmobfcabiaaDoor
open Go.RowKit
set_option maxHeartbeats 4000000 in
set_option maxRecDepth 100000 in
theorem with_none (w : World) (B0 : Nat) (hB0 : B0 ≤ w.heap.size) (key : ByteArray) (hks : key.size ≤ 140737488355328) (x : V) (cx : VC) (hx : IsVal (only (fun k => B0 ≤ k) w) w.heap.size x cx) :
    Calls Tryd.prog 78 #[.slice none 0 0, .string key, .agg #[.int .u8 cx.k, .int .i64 cx.n, .string cx.s, .slice cx.la cx.ll cx.lc, .slice cx.oa cx.ol cx.oc]] w (WithPost w B0 (withF [] key x)) := by
  obtain ⟨i0, hi0, hz0, hz1, hz2⟩ := info_parts ginfoFR
  have HF : Hid (∀ W, Below w.heap.size w W → Calls Tryd.prog 93 #[.agg #[.int .u8 0, .int .i64 0, .string { data := #[] }, .slice none 0 0, .slice none 0 0], .string key] W fun e w' => e = .returned (.tuple #[.int .i64 0, .bool false]) ∧ Below W.heap.size W w') := by
    intro W hW
    exact field_any W [] key 0 0 { data := #[] } none 0 0 none 0 0 ⟨rfl, by omega, by omega, by omega, 0, 0, fun _ => vzero, fun h => absurd h (by omega), fun i h => absurd h (by simp)⟩
  have HBX := Lib.hid (BC.start w #[.int .u8 cx.k, .int .i64 cx.n, .string cx.s, .slice cx.la cx.ll cx.lc, .slice cx.oa cx.ol cx.oc] 28)
  have HAL := Lib.hid ((Below.refl _ _).alloc (Nat.le_refl _) (.cells #[.int .u8 cx.k, .int .i64 cx.n, .string cx.s, .slice cx.la cx.ll cx.lc, .slice cx.oa cx.ol cx.oc] 28) : Below w.heap.size w _)
  have HX := Lib.hid hx
  obtain ⟨R, hR⟩ : ∃ R, WithPost w B0 (withF [] key x) = R := ⟨_, rfl⟩
  rw [hR]
  have HR := Lib.hid hR
  clear hx hR
  go_enter Tryd.func78, Tryd.ntmps78
  go_wp2_with fail
  refine (HF.out _ HAL.out).mono ?_
  rintro e w1 ⟨rfl, hb1⟩
  have BX2 := HBX.out.keep hb1 (by simp)
  have x0 := BX2.at_ 0 _ rfl; have x1 := BX2.at_ 1 _ rfl; have x2 := BX2.at_ 2 _ rfl; have x3 := BX2.at_ 3 _ rfl; have x4 := BX2.at_ 4 _ rfl
  have zs2 : w.heap.size < w1.heap.size := BX2.lt
  have HBL1 := Lib.hid (HAL.out.trans (hb1.mono (by simp)))
  have ho2 : (w1.alloc (.cells #[.string key, .int .u8 cx.k, .int .i64 cx.n, .string cx.s, .slice cx.la cx.ll cx.lc, .slice cx.oa cx.ol cx.oc] 78)).ownsRow (w.heap.size + 1) 78 6 (.slice none 0 0) 0 [] := ⟨rfl, .inl ⟨rfl, rfl⟩⟩
  have hnw : ∀ j u, (fcells (key, cx))[j]? = some u → (w1.alloc (.cells #[.string key, .int .u8 cx.k, .int .i64 cx.n, .string cx.s, .slice cx.la cx.ll cx.lc, .slice cx.oa cx.ol cx.oc] 78)).cell? ((⟨w1.heap.size, 0, none⟩ : Addr).add j) = some u := World.news_of_block (t := 78) (fr := (0, 0)) (heap_alloc_new w1 (.cells #[.string key, .int .u8 cx.k, .int .i64 cx.n, .string cx.s, .slice cx.la cx.ll cx.lc, .slice cx.oa cx.ol cx.oc] 78))
  have HNW := Lib.hid hnw
  clear hb1 BX2 hnw
  have ho1 : w1.ownsRow (w.heap.size + 1) 78 6 (.slice none 0 0) 0 [] := ⟨rfl, .inl ⟨rfl, rfl⟩⟩
  go_wp2_with (first
    | (at_builtin; refine wpList_append_none _ rfl (.tmp 17) (.tmp 20) 26 (by rfl) (w.heap.size + 1) 78 i0 6 Tryd.underlying26 hi0 (.slice none 0 0) 0 [] (by rfl) ho1 (by rfl) ?_)
    | (at_builtin; refine wpList_append_own _ rfl (.tmp 22) (.tmp 26) 26 (by rfl) (w.heap.size + 1) 78 i0 _ 6 96 Tryd.underlying26 hi0 hz0 hz1 hz2 rfl (by omega) (.slice none 0 0) 0 [] (by rfl) ho2 ⟨w1.heap.size, 0, none⟩ 1 1 (fcells (key, cx)) (by rfl) (by rfl) HNW.out (fcells_one key cx) (by unfold maxLen; omega) (by omega) (by simp; omega) ?_; intro v2 w4 hown2 hgrow2 _; have b24 : Below (w.heap.size + 1) w1 w4 := (((Below.refl w1.heap.size w1).alloc (Nat.le_refl _) (.cells #[.string key, .int .u8 cx.k, .int .i64 cx.n, .string cx.s, .slice cx.la cx.ll cx.lc, .slice cx.oa cx.ol cx.oc] 78)).mono (by omega)).trans (grown_below hgrow2 (fun k hk => by simp [Value.ownBlock] at hk) (by simp; omega)); have HBL4 := Lib.hid (HBL1.out.trans (b24.mono (by omega))); have zs4 : w.heap.size < w4.heap.size := Nat.lt_of_lt_of_le zs2 b24.size; have HO2 := Lib.hid hown2; clear hgrow2 b24 hown2)
    | (at_builtin; refine wpList_append_none _ rfl (.tmp 31) (.tmp 34) 26 (by rfl) (w.heap.size + 1) 78 i0 6 Tryd.underlying26 hi0 v2 (0 + 1) ([] ++ fcells (key, cx)) (by rfl) HO2.out (by rfl) ?_))
  rw [← HR.out]
  have hown := HO2.out
  have hcat : [] ++ fcells (key, cx) = [(key, cx)].flatMap fcells := by simp
  rw [hcat] at hown
  have hlt3 := hown.lt
  have hsh : Shows (only (fun k => B0 ≤ k) w) (only (Free B0 v2) w4) w.heap.size := shows_step fun q hq hl => ⟨⟨hq, fun e => by have := (hlt3 q e.symm).1; omega⟩, HBL4.out.block q hl⟩
  obtain ⟨a, n, c, hv, hf, hz⟩ := isFields_of_own (l := [(key, x)]) (B0 := B0) (B1 := w.heap.size + 1) hown (by omega) rfl
    (fun i _ hi => by
      obtain rfl : i = 0 := by simpa using hi
      exact ⟨rfl, hks, (HX.out.sub hsh).more HBL4.out.size⟩) (by simp)
  exact ⟨⟨a, n, c, by rw [hv], hf, hz⟩, HBL4.out⟩
end Go.Proofs.YtcfbnmobfcabiaaDoor
