/-
  Layer 26: which configs may be.
-/
import Derived.Test.YtahcaplhdgphcaaGreatNew
import Derived.Test.YtahcaplhdgphcaaGreatInts
namespace Go.Proofs.YtahcaplhdgphcaaGreat
open Go Go.RowKit Go.Proofs.RV
set_option linter.unusedSimpArgs false
set_option linter.unusedVariables false
set_option maxRecDepth 10000
set_option maxHeartbeats 4000000

def leastC : List Int := [1, 1, 1, 1, 0, 0, 1, 1, 9216, 0, 0, 1, 0, 0, 0, 1, 1, 1, 0, 1]
def mostC : List Int := [64, 4096, 4, 64, 65536, 65536, 64, 64, 1073741824, 1073741824, 1073741824, 1000000, 1073741824, 1073741824, 4611686018427387903, 4611686018427387903, 4611686018427387903, 4611686018427387903, 1073741824, 1073741824]
def rightM (c : List Int) : Prop := ∀ k, k < 20 → leastC.getD k 0 ≤ c.getD k 0 ∧ c.getD k 0 ≤ mostC.getD k 0
instance (c : List Int) : Decidable (rightM c) := by unfold rightM; infer_instance
theorem config_in (w : World) (n a b : Int) : Ret Tryz.prog 151 #[.int .i64 n, .int .i64 a, .int .i64 b] w fun v w' => v = .bool (decide (a ≤ n ∧ n ≤ b)) ∧ w' = w := by
  refine ret_of Tryz.func151 rfl (by kernel_rfl) (Nat.le_of_ble_eq_true (by kernel_rfl)) ?_
  by_cases h1 : a ≤ n
  · by_cases h2 : n ≤ b
    · rw [decide_eq_true (show a ≤ n ∧ n ≤ b from ⟨h1, h2⟩)]
      simp (config := {maxSteps := 1000000, implicitDefEqProofs := false}) only [↓zvD, zvU, ↓up_apply, ↓hv_apply, ↓upO_some, ↓upO_none, ↓ev_tmp, ↓ev_const, ↓ev_func, ↓ev_global, init, Nat.reduceEqDiff, Nat.reduceAdd, Nat.reduceMul, Nat.reduceSub, ↓reduceIte, Int.reduceEq, Int.reduceNe, Nat.reduceLeDiff, one, Value.cells, Int.reduceLE, Int.reduceLT, Int.reduceToNat, add_mk, reduceCtorEq, List.mem_range'_1, true_and, and_true, and_false, false_and, Nat.reduceLT, Nat.reduceLeDiff, tyF, h1, h2]
    · rw [decide_eq_false (fun h => h2 h.2)]
      simp (config := {maxSteps := 1000000, implicitDefEqProofs := false}) only [↓zvD, zvU, ↓up_apply, ↓hv_apply, ↓upO_some, ↓upO_none, ↓ev_tmp, ↓ev_const, ↓ev_func, ↓ev_global, init, Nat.reduceEqDiff, Nat.reduceAdd, Nat.reduceMul, Nat.reduceSub, ↓reduceIte, Int.reduceEq, Int.reduceNe, Nat.reduceLeDiff, one, Value.cells, Int.reduceLE, Int.reduceLT, Int.reduceToNat, add_mk, reduceCtorEq, List.mem_range'_1, true_and, and_true, and_false, false_and, Nat.reduceLT, Nat.reduceLeDiff, tyF, h1, h2]
  · rw [decide_eq_false (fun h => h1 h.1)]
    simp (config := {maxSteps := 1000000, implicitDefEqProofs := false}) only [↓zvD, zvU, ↓up_apply, ↓hv_apply, ↓upO_some, ↓upO_none, ↓ev_tmp, ↓ev_const, ↓ev_func, ↓ev_global, init, Nat.reduceEqDiff, Nat.reduceAdd, Nat.reduceMul, Nat.reduceSub, ↓reduceIte, Int.reduceEq, Int.reduceNe, Nat.reduceLeDiff, one, Value.cells, Int.reduceLE, Int.reduceLT, Int.reduceToNat, add_mk, reduceCtorEq, List.mem_range'_1, true_and, and_true, and_false, false_and, Nat.reduceLT, Nat.reduceLeDiff, tyF, h1]
def partsM (c : List Int) : Prop := blueOk (c.getD 2 0) (c.getD 3 0) (c.getD 13 0) (c.getD 14 0) (c.getD 4 0) (c.getD 5 0) ∧ windowOk (c.getD 6 0) (c.getD 15 0) (c.getD 16 0) ∧ boxOk (c.getD 7 0) (c.getD 17 0) (c.getD 18 0) (c.getD 19 0)
open Classical in
theorem config_parts (w : World) (c : List Int) (hc : c.length = 20) : Ret Tryz.prog 152 #[.agg (ints c).toArray] w fun v w' => v = .bool (decide (partsM c)) ∧ More w w' := by
  refine ret_of Tryz.func152 rfl (by kernel_rfl) (Nat.le_of_ble_eq_true (by kernel_rfl)) ?_
  have hm1 := more_alloc w (.cells (ints c).toArray 29)
  have hb1 := Blk.new w 29 (ints c).toArray
  simp (config := {maxSteps := 1000000, implicitDefEqProofs := false}) only [↓zvD, zvU, ↓up_apply, ↓hv_apply, ↓upO_some, ↓upO_none, ↓ev_tmp, ↓ev_const, ↓ev_func, ↓ev_global, init, Nat.reduceEqDiff, Nat.reduceAdd, Nat.reduceMul, Nat.reduceSub, ↓reduceIte, Int.reduceEq, Int.reduceNe, Nat.reduceLeDiff, one, Value.cells, Int.reduceLE, Int.reduceLT, Int.reduceToNat, add_mk, reduceCtorEq, List.mem_range'_1, true_and, and_true, and_false, false_and, Nat.reduceLT, Nat.reduceLeDiff, tyF]
  generalize w.alloc (.cells (ints c).toArray 29) = w1 at hm1 hb1 ⊢
  rw [List.toList_toArray] at hb1
  have hcell : ∀ w', More w1 w' → ∀ i, i < 20 → w'.cell? ⟨w.heap.size, i, none⟩ = some (.int .i64 (c.getD i 0)) := fun w' h i hi => by rw [(hb1.more h).cell]; exact ints_at (by omega)
  have g0 := hcell w1 (More.refl _)
  simp (config := {maxSteps := 1000000, implicitDefEqProofs := false}) only [↓zvD, zvU, ↓up_apply, ↓hv_apply, ↓upO_some, ↓upO_none, ↓ev_tmp, ↓ev_const, ↓ev_func, ↓ev_global, init, Nat.reduceEqDiff, Nat.reduceAdd, Nat.reduceMul, Nat.reduceSub, ↓reduceIte, Int.reduceEq, Int.reduceNe, Nat.reduceLeDiff, one, Value.cells, Int.reduceLE, Int.reduceLT, Int.reduceToNat, add_mk, reduceCtorEq, List.mem_range'_1, true_and, and_true, and_false, false_and, Nat.reduceLT, Nat.reduceLeDiff, tyF, g0 2 (by omega), g0 3 (by omega), g0 13 (by omega), g0 14 (by omega), g0 4 (by omega), g0 5 (by omega)]
  refine call_ok Tryz.call95 (blue_new w1 _ _ _ _ _ _) ?_
  rintro v2 w2 ⟨hm2, hy2, hn2⟩
  have g2 := hcell w2 hm2
  obtain ⟨p2, e2, hv2, he2⟩ : ∃ p2 e2, v2 = .tuple #[.pointer p2, .int .i64 e2] ∧ (e2 = 0 ↔ blueOk (c.getD 2 0) (c.getD 3 0) (c.getD 13 0) (c.getD 14 0) (c.getD 4 0) (c.getD 5 0)) := by
    by_cases h : blueOk (c.getD 2 0) (c.getD 3 0) (c.getD 13 0) (c.getD 14 0) (c.getD 4 0) (c.getD 5 0)
    · obtain ⟨b, p, n, hv, _⟩ := hy2 h
      exact ⟨_, _, hv, fun _ => h, fun _ => rfl⟩
    · exact ⟨_, _, hn2 h, fun h0 => absurd h0 (by decide), fun h' => absurd h' h⟩
  subst hv2
  simp (config := {maxSteps := 1000000, implicitDefEqProofs := false}) only [↓zvD, zvU, ↓up_apply, ↓hv_apply, ↓upO_some, ↓upO_none, ↓ev_tmp, ↓ev_const, ↓ev_func, ↓ev_global, init, Nat.reduceEqDiff, Nat.reduceAdd, Nat.reduceMul, Nat.reduceSub, ↓reduceIte, Int.reduceEq, Int.reduceNe, Nat.reduceLeDiff, one, Value.cells, Int.reduceLE, Int.reduceLT, Int.reduceToNat, add_mk, reduceCtorEq, List.mem_range'_1, true_and, and_true, and_false, false_and, Nat.reduceLT, Nat.reduceLeDiff, tyF, g2 6 (by omega), g2 15 (by omega), g2 16 (by omega)]
  refine call_ok Tryz.call96 (window_new w2 _ _ _) ?_
  rintro v3 w3 ⟨hm3, hy3, hn3⟩
  have g3 := hcell w3 (hm2.trans hm3)
  obtain ⟨p3, e3, hv3, he3⟩ : ∃ p3 e3, v3 = .tuple #[.pointer p3, .int .i64 e3] ∧ (e3 = 0 ↔ windowOk (c.getD 6 0) (c.getD 15 0) (c.getD 16 0)) := by
    by_cases h : windowOk (c.getD 6 0) (c.getD 15 0) (c.getD 16 0)
    · obtain ⟨b, q, p, n, cs, hv, _⟩ := hy3 h
      exact ⟨_, _, hv, fun _ => h, fun _ => rfl⟩
    · exact ⟨_, _, hn3 h, fun h0 => absurd h0 (by decide), fun h' => absurd h' h⟩
  subst hv3
  simp (config := {maxSteps := 1000000, implicitDefEqProofs := false}) only [↓zvD, zvU, ↓up_apply, ↓hv_apply, ↓upO_some, ↓upO_none, ↓ev_tmp, ↓ev_const, ↓ev_func, ↓ev_global, init, Nat.reduceEqDiff, Nat.reduceAdd, Nat.reduceMul, Nat.reduceSub, ↓reduceIte, Int.reduceEq, Int.reduceNe, Nat.reduceLeDiff, one, Value.cells, Int.reduceLE, Int.reduceLT, Int.reduceToNat, add_mk, reduceCtorEq, List.mem_range'_1, true_and, and_true, and_false, false_and, Nat.reduceLT, Nat.reduceLeDiff, tyF, g3 7 (by omega), g3 17 (by omega), g3 18 (by omega), g3 19 (by omega)]
  refine call_ok Tryz.call97 (box_new w3 _ _ _ _) ?_
  rintro v4 w4 ⟨hm4, hy4, hn4⟩
  have hm := (hm1.trans hm2).trans (hm3.trans hm4)
  obtain ⟨p4, e4, hv4, he4⟩ : ∃ p4 e4, v4 = .tuple #[.pointer p4, .int .i64 e4] ∧ (e4 = 0 ↔ boxOk (c.getD 7 0) (c.getD 17 0) (c.getD 18 0) (c.getD 19 0)) := by
    by_cases h : boxOk (c.getD 7 0) (c.getD 17 0) (c.getD 18 0) (c.getD 19 0)
    · obtain ⟨b, q, p, n, hv, _⟩ := hy4 h
      exact ⟨_, _, hv, fun _ => h, fun _ => rfl⟩
    · exact ⟨_, _, hn4 h, fun h0 => absurd h0 (by decide), fun h' => absurd h' h⟩
  subst hv4
  have hp : partsM c ↔ (e2 = 0 ∧ e3 = 0 ∧ e4 = 0) := by unfold partsM; rw [he2, he3, he4]
  have fin : ∀ b : Bool, (b = true ↔ (e2 = 0 ∧ e3 = 0 ∧ e4 = 0)) → Value.bool b = Value.bool (decide (partsM c)) := by
    intro b h
    rw [← hp] at h
    congr 1
    by_cases hp : partsM c
    · rw [decide_eq_true hp]; exact h.2 hp
    · rw [decide_eq_false hp]
      cases b
      · rfl
      · exact absurd (h.1 rfl) hp
  simp (config := {maxSteps := 1000000, implicitDefEqProofs := false}) only [↓zvD, zvU, ↓up_apply, ↓hv_apply, ↓upO_some, ↓upO_none, ↓ev_tmp, ↓ev_const, ↓ev_func, ↓ev_global, init, Nat.reduceEqDiff, Nat.reduceAdd, Nat.reduceMul, Nat.reduceSub, ↓reduceIte, Int.reduceEq, Int.reduceNe, Nat.reduceLeDiff, one, Value.cells, Int.reduceLE, Int.reduceLT, Int.reduceToNat, add_mk, reduceCtorEq, List.mem_range'_1, true_and, and_true, and_false, false_and, Nat.reduceLT, Nat.reduceLeDiff, tyF]
  refine ⟨fun h2 => ⟨fun h3 => ⟨?_, hm⟩, fun h3 => ⟨?_, hm⟩⟩, fun h2 => ⟨?_, hm⟩⟩
  · exact fin _ ⟨fun h => ⟨h2, h3, of_decide_eq_true h⟩, fun h => decide_eq_true h.2.2⟩
  · exact fin false ⟨fun h => (Bool.noConfusion h), fun h => absurd h.2.1 h3⟩
  · exact fin false ⟨fun h => (Bool.noConfusion h), fun h => absurd h.1 h2⟩
theorem parts_right (c : List Int) : rightM c ↔ (1 ≤ c.getD 0 0 ∧ c.getD 0 0 ≤ 64) ∧ (1 ≤ c.getD 1 0 ∧ c.getD 1 0 ≤ 4096) ∧ (9216 ≤ c.getD 8 0 ∧ c.getD 8 0 ≤ 1073741824) ∧ (1 ≤ c.getD 11 0 ∧ c.getD 11 0 ≤ 1000000) ∧
    (0 ≤ c.getD 9 0 ∧ c.getD 9 0 ≤ 1073741824) ∧ (0 ≤ c.getD 10 0 ∧ c.getD 10 0 ≤ 1073741824) ∧ (0 ≤ c.getD 12 0 ∧ c.getD 12 0 ≤ 1073741824) ∧ partsM c := by
  unfold rightM partsM blueOk windowOk boxOk tunedOk mayOk tokOk
  constructor
  · intro h
    have h0 := h 0 (by omega); have h1 := h 1 (by omega); have h2 := h 2 (by omega); have h3 := h 3 (by omega); have h4 := h 4 (by omega)
    have h5 := h 5 (by omega); have h6 := h 6 (by omega); have h7 := h 7 (by omega); have h8 := h 8 (by omega); have h9 := h 9 (by omega)
    have h10 := h 10 (by omega); have h11 := h 11 (by omega); have h12 := h 12 (by omega); have h13 := h 13 (by omega); have h14 := h 14 (by omega)
    have h15 := h 15 (by omega); have h16 := h 16 (by omega); have h17 := h 17 (by omega); have h18 := h 18 (by omega); have h19 := h 19 (by omega)
    exact ⟨h0, h1, h8, h11, h9, h10, h12, ⟨h2.1, h2.2, h3.1, h3.2, h14.1, h14.2, h13.1, h13.2, h4.1, h4.2, h5.1, h5.2⟩, ⟨h6, h15, h16⟩, h7, h17, h18.1, h18.2, h19⟩
  · rintro ⟨h0, h1, h8, h11, h9, h10, h12, ⟨a1, a2, a3, a4, a5, a6, a7, a8, a9, b1, b2, b3⟩, ⟨h6, h15, h16⟩, h7, h17, b4, b5, h19⟩ k hk
    match k, hk with
    | 0, _ => exact h0
    | 1, _ => exact h1
    | 2, _ => exact ⟨a1, a2⟩
    | 3, _ => exact ⟨a3, a4⟩
    | 4, _ => exact ⟨a9, b1⟩
    | 5, _ => exact ⟨b2, b3⟩
    | 6, _ => exact h6
    | 7, _ => exact h7
    | 8, _ => exact h8
    | 9, _ => exact h9
    | 10, _ => exact h10
    | 11, _ => exact h11
    | 12, _ => exact h12
    | 13, _ => exact ⟨a7, a8⟩
    | 14, _ => exact ⟨a5, a6⟩
    | 15, _ => exact h15
    | 16, _ => exact h16
    | 17, _ => exact h17
    | 18, _ => exact ⟨b4, b5⟩
    | 19, _ => exact h19
    | k + 20, h => omega
open Classical in
theorem config_right (w : World) (c : List Int) (hc : c.length = 20) : Ret Tryz.prog 90 #[.agg (ints c).toArray] w fun v w' => v = .bool (decide (rightM c)) ∧ More w w' := by
  refine ret_of Tryz.func90 rfl (by kernel_rfl) (Nat.le_of_ble_eq_true (by kernel_rfl)) ?_
  have hm1 := more_alloc w (.cells (ints c).toArray 29)
  have hb1 := Blk.new w 29 (ints c).toArray
  simp (config := {maxSteps := 1000000, implicitDefEqProofs := false}) only [↓zvD, zvU, ↓up_apply, ↓hv_apply, ↓upO_some, ↓upO_none, ↓ev_tmp, ↓ev_const, ↓ev_func, ↓ev_global, init, Nat.reduceEqDiff, Nat.reduceAdd, Nat.reduceMul, Nat.reduceSub, ↓reduceIte, Int.reduceEq, Int.reduceNe, Nat.reduceLeDiff, one, Value.cells, Int.reduceLE, Int.reduceLT, Int.reduceToNat, add_mk, reduceCtorEq, List.mem_range'_1, true_and, and_true, and_false, false_and, Nat.reduceLT, Nat.reduceLeDiff, tyF]
  generalize w.alloc (.cells (ints c).toArray 29) = w1 at hm1 hb1 ⊢
  rw [List.toList_toArray] at hb1
  have g0 : ∀ i, i < 20 → w1.cell? ⟨w.heap.size, i, none⟩ = some (.int .i64 (c.getD i 0)) := fun i hi => by rw [hb1.cell]; exact ints_at (by omega)
  have hv := hb1.all_eq 20 (by rw [ints_len, hc])
  simp (config := {maxSteps := 1000000, implicitDefEqProofs := false}) only [↓zvD, zvU, ↓up_apply, ↓hv_apply, ↓upO_some, ↓upO_none, ↓ev_tmp, ↓ev_const, ↓ev_func, ↓ev_global, init, Nat.reduceEqDiff, Nat.reduceAdd, Nat.reduceMul, Nat.reduceSub, ↓reduceIte, Int.reduceEq, Int.reduceNe, Nat.reduceLeDiff, one, Value.cells, Int.reduceLE, Int.reduceLT, Int.reduceToNat, add_mk, reduceCtorEq, List.mem_range'_1, true_and, and_true, and_false, false_and, Nat.reduceLT, Nat.reduceLeDiff, tyF, g0 0 (by omega)]
  refine call_ok Tryz.call151 (config_in _ _ 1 64) ?_
  rintro _ w2 ⟨rfl, rfl⟩
  by_cases h0 : 1 ≤ c.getD 0 0 ∧ c.getD 0 0 ≤ 64
  rotate_left
  · rw [decide_eq_false h0, decide_eq_false (fun h => h0 ((parts_right c).1 h).1)]
    simp (config := {maxSteps := 1000000, implicitDefEqProofs := false}) only [↓zvD, zvU, ↓up_apply, ↓hv_apply, ↓upO_some, ↓upO_none, ↓ev_tmp, ↓ev_const, ↓ev_func, ↓ev_global, init, Nat.reduceEqDiff, Nat.reduceAdd, Nat.reduceMul, Nat.reduceSub, ↓reduceIte, Int.reduceEq, Int.reduceNe, Nat.reduceLeDiff, one, Value.cells, Int.reduceLE, Int.reduceLT, Int.reduceToNat, add_mk, reduceCtorEq, List.mem_range'_1, true_and, and_true, and_false, false_and, Nat.reduceLT, Nat.reduceLeDiff, tyF]
    exact hm1
  rw [decide_eq_true h0]
  simp (config := {maxSteps := 1000000, implicitDefEqProofs := false}) only [↓zvD, zvU, ↓up_apply, ↓hv_apply, ↓upO_some, ↓upO_none, ↓ev_tmp, ↓ev_const, ↓ev_func, ↓ev_global, init, Nat.reduceEqDiff, Nat.reduceAdd, Nat.reduceMul, Nat.reduceSub, ↓reduceIte, Int.reduceEq, Int.reduceNe, Nat.reduceLeDiff, one, Value.cells, Int.reduceLE, Int.reduceLT, Int.reduceToNat, add_mk, reduceCtorEq, List.mem_range'_1, true_and, and_true, and_false, false_and, Nat.reduceLT, Nat.reduceLeDiff, tyF, g0 0 (by omega), g0 1 (by omega), g0 8 (by omega), g0 11 (by omega), g0 9 (by omega), g0 10 (by omega), g0 12 (by omega)]
  refine call_ok Tryz.call151 (config_in _ _ 1 4096) ?_
  rintro _ w2 ⟨rfl, rfl⟩
  by_cases h1 : 1 ≤ c.getD 1 0 ∧ c.getD 1 0 ≤ 4096
  rotate_left
  · rw [decide_eq_false h1, decide_eq_false (fun h => h1 ((parts_right c).1 h).2.1)]
    simp (config := {maxSteps := 1000000, implicitDefEqProofs := false}) only [↓zvD, zvU, ↓up_apply, ↓hv_apply, ↓upO_some, ↓upO_none, ↓ev_tmp, ↓ev_const, ↓ev_func, ↓ev_global, init, Nat.reduceEqDiff, Nat.reduceAdd, Nat.reduceMul, Nat.reduceSub, ↓reduceIte, Int.reduceEq, Int.reduceNe, Nat.reduceLeDiff, one, Value.cells, Int.reduceLE, Int.reduceLT, Int.reduceToNat, add_mk, reduceCtorEq, List.mem_range'_1, true_and, and_true, and_false, false_and, Nat.reduceLT, Nat.reduceLeDiff, tyF]
    exact hm1
  rw [decide_eq_true h1]
  simp (config := {maxSteps := 1000000, implicitDefEqProofs := false}) only [↓zvD, zvU, ↓up_apply, ↓hv_apply, ↓upO_some, ↓upO_none, ↓ev_tmp, ↓ev_const, ↓ev_func, ↓ev_global, init, Nat.reduceEqDiff, Nat.reduceAdd, Nat.reduceMul, Nat.reduceSub, ↓reduceIte, Int.reduceEq, Int.reduceNe, Nat.reduceLeDiff, one, Value.cells, Int.reduceLE, Int.reduceLT, Int.reduceToNat, add_mk, reduceCtorEq, List.mem_range'_1, true_and, and_true, and_false, false_and, Nat.reduceLT, Nat.reduceLeDiff, tyF, g0 0 (by omega), g0 1 (by omega), g0 8 (by omega), g0 11 (by omega), g0 9 (by omega), g0 10 (by omega), g0 12 (by omega)]
  refine call_ok Tryz.call151 (config_in _ _ 9216 1073741824) ?_
  rintro _ w2 ⟨rfl, rfl⟩
  by_cases h8 : 9216 ≤ c.getD 8 0 ∧ c.getD 8 0 ≤ 1073741824
  rotate_left
  · rw [decide_eq_false h8, decide_eq_false (fun h => h8 ((parts_right c).1 h).2.2.1)]
    simp (config := {maxSteps := 1000000, implicitDefEqProofs := false}) only [↓zvD, zvU, ↓up_apply, ↓hv_apply, ↓upO_some, ↓upO_none, ↓ev_tmp, ↓ev_const, ↓ev_func, ↓ev_global, init, Nat.reduceEqDiff, Nat.reduceAdd, Nat.reduceMul, Nat.reduceSub, ↓reduceIte, Int.reduceEq, Int.reduceNe, Nat.reduceLeDiff, one, Value.cells, Int.reduceLE, Int.reduceLT, Int.reduceToNat, add_mk, reduceCtorEq, List.mem_range'_1, true_and, and_true, and_false, false_and, Nat.reduceLT, Nat.reduceLeDiff, tyF]
    exact hm1
  rw [decide_eq_true h8]
  simp (config := {maxSteps := 1000000, implicitDefEqProofs := false}) only [↓zvD, zvU, ↓up_apply, ↓hv_apply, ↓upO_some, ↓upO_none, ↓ev_tmp, ↓ev_const, ↓ev_func, ↓ev_global, init, Nat.reduceEqDiff, Nat.reduceAdd, Nat.reduceMul, Nat.reduceSub, ↓reduceIte, Int.reduceEq, Int.reduceNe, Nat.reduceLeDiff, one, Value.cells, Int.reduceLE, Int.reduceLT, Int.reduceToNat, add_mk, reduceCtorEq, List.mem_range'_1, true_and, and_true, and_false, false_and, Nat.reduceLT, Nat.reduceLeDiff, tyF, g0 0 (by omega), g0 1 (by omega), g0 8 (by omega), g0 11 (by omega), g0 9 (by omega), g0 10 (by omega), g0 12 (by omega)]
  refine call_ok Tryz.call151 (config_in _ _ 1 1000000) ?_
  rintro _ w2 ⟨rfl, rfl⟩
  by_cases h11 : 1 ≤ c.getD 11 0 ∧ c.getD 11 0 ≤ 1000000
  rotate_left
  · rw [decide_eq_false h11, decide_eq_false (fun h => h11 ((parts_right c).1 h).2.2.2.1)]
    simp (config := {maxSteps := 1000000, implicitDefEqProofs := false}) only [↓zvD, zvU, ↓up_apply, ↓hv_apply, ↓upO_some, ↓upO_none, ↓ev_tmp, ↓ev_const, ↓ev_func, ↓ev_global, init, Nat.reduceEqDiff, Nat.reduceAdd, Nat.reduceMul, Nat.reduceSub, ↓reduceIte, Int.reduceEq, Int.reduceNe, Nat.reduceLeDiff, one, Value.cells, Int.reduceLE, Int.reduceLT, Int.reduceToNat, add_mk, reduceCtorEq, List.mem_range'_1, true_and, and_true, and_false, false_and, Nat.reduceLT, Nat.reduceLeDiff, tyF]
    exact hm1
  rw [decide_eq_true h11]
  simp (config := {maxSteps := 1000000, implicitDefEqProofs := false}) only [↓zvD, zvU, ↓up_apply, ↓hv_apply, ↓upO_some, ↓upO_none, ↓ev_tmp, ↓ev_const, ↓ev_func, ↓ev_global, init, Nat.reduceEqDiff, Nat.reduceAdd, Nat.reduceMul, Nat.reduceSub, ↓reduceIte, Int.reduceEq, Int.reduceNe, Nat.reduceLeDiff, one, Value.cells, Int.reduceLE, Int.reduceLT, Int.reduceToNat, add_mk, reduceCtorEq, List.mem_range'_1, true_and, and_true, and_false, false_and, Nat.reduceLT, Nat.reduceLeDiff, tyF, g0 0 (by omega), g0 1 (by omega), g0 8 (by omega), g0 11 (by omega), g0 9 (by omega), g0 10 (by omega), g0 12 (by omega)]
  refine call_ok Tryz.call151 (config_in _ _ 0 1073741824) ?_
  rintro _ w2 ⟨rfl, rfl⟩
  by_cases h9 : 0 ≤ c.getD 9 0 ∧ c.getD 9 0 ≤ 1073741824
  rotate_left
  · rw [decide_eq_false h9, decide_eq_false (fun h => h9 ((parts_right c).1 h).2.2.2.2.1)]
    simp (config := {maxSteps := 1000000, implicitDefEqProofs := false}) only [↓zvD, zvU, ↓up_apply, ↓hv_apply, ↓upO_some, ↓upO_none, ↓ev_tmp, ↓ev_const, ↓ev_func, ↓ev_global, init, Nat.reduceEqDiff, Nat.reduceAdd, Nat.reduceMul, Nat.reduceSub, ↓reduceIte, Int.reduceEq, Int.reduceNe, Nat.reduceLeDiff, one, Value.cells, Int.reduceLE, Int.reduceLT, Int.reduceToNat, add_mk, reduceCtorEq, List.mem_range'_1, true_and, and_true, and_false, false_and, Nat.reduceLT, Nat.reduceLeDiff, tyF]
    exact hm1
  rw [decide_eq_true h9]
  simp (config := {maxSteps := 1000000, implicitDefEqProofs := false}) only [↓zvD, zvU, ↓up_apply, ↓hv_apply, ↓upO_some, ↓upO_none, ↓ev_tmp, ↓ev_const, ↓ev_func, ↓ev_global, init, Nat.reduceEqDiff, Nat.reduceAdd, Nat.reduceMul, Nat.reduceSub, ↓reduceIte, Int.reduceEq, Int.reduceNe, Nat.reduceLeDiff, one, Value.cells, Int.reduceLE, Int.reduceLT, Int.reduceToNat, add_mk, reduceCtorEq, List.mem_range'_1, true_and, and_true, and_false, false_and, Nat.reduceLT, Nat.reduceLeDiff, tyF, g0 0 (by omega), g0 1 (by omega), g0 8 (by omega), g0 11 (by omega), g0 9 (by omega), g0 10 (by omega), g0 12 (by omega)]
  refine call_ok Tryz.call151 (config_in _ _ 0 1073741824) ?_
  rintro _ w2 ⟨rfl, rfl⟩
  by_cases h10 : 0 ≤ c.getD 10 0 ∧ c.getD 10 0 ≤ 1073741824
  rotate_left
  · rw [decide_eq_false h10, decide_eq_false (fun h => h10 ((parts_right c).1 h).2.2.2.2.2.1)]
    simp (config := {maxSteps := 1000000, implicitDefEqProofs := false}) only [↓zvD, zvU, ↓up_apply, ↓hv_apply, ↓upO_some, ↓upO_none, ↓ev_tmp, ↓ev_const, ↓ev_func, ↓ev_global, init, Nat.reduceEqDiff, Nat.reduceAdd, Nat.reduceMul, Nat.reduceSub, ↓reduceIte, Int.reduceEq, Int.reduceNe, Nat.reduceLeDiff, one, Value.cells, Int.reduceLE, Int.reduceLT, Int.reduceToNat, add_mk, reduceCtorEq, List.mem_range'_1, true_and, and_true, and_false, false_and, Nat.reduceLT, Nat.reduceLeDiff, tyF]
    exact hm1
  rw [decide_eq_true h10]
  simp (config := {maxSteps := 1000000, implicitDefEqProofs := false}) only [↓zvD, zvU, ↓up_apply, ↓hv_apply, ↓upO_some, ↓upO_none, ↓ev_tmp, ↓ev_const, ↓ev_func, ↓ev_global, init, Nat.reduceEqDiff, Nat.reduceAdd, Nat.reduceMul, Nat.reduceSub, ↓reduceIte, Int.reduceEq, Int.reduceNe, Nat.reduceLeDiff, one, Value.cells, Int.reduceLE, Int.reduceLT, Int.reduceToNat, add_mk, reduceCtorEq, List.mem_range'_1, true_and, and_true, and_false, false_and, Nat.reduceLT, Nat.reduceLeDiff, tyF, g0 0 (by omega), g0 1 (by omega), g0 8 (by omega), g0 11 (by omega), g0 9 (by omega), g0 10 (by omega), g0 12 (by omega)]
  refine call_ok Tryz.call151 (config_in _ _ 0 1073741824) ?_
  rintro _ w2 ⟨rfl, rfl⟩
  by_cases h12 : 0 ≤ c.getD 12 0 ∧ c.getD 12 0 ≤ 1073741824
  rotate_left
  · rw [decide_eq_false h12, decide_eq_false (fun h => h12 ((parts_right c).1 h).2.2.2.2.2.2.1)]
    simp (config := {maxSteps := 1000000, implicitDefEqProofs := false}) only [↓zvD, zvU, ↓up_apply, ↓hv_apply, ↓upO_some, ↓upO_none, ↓ev_tmp, ↓ev_const, ↓ev_func, ↓ev_global, init, Nat.reduceEqDiff, Nat.reduceAdd, Nat.reduceMul, Nat.reduceSub, ↓reduceIte, Int.reduceEq, Int.reduceNe, Nat.reduceLeDiff, one, Value.cells, Int.reduceLE, Int.reduceLT, Int.reduceToNat, add_mk, reduceCtorEq, List.mem_range'_1, true_and, and_true, and_false, false_and, Nat.reduceLT, Nat.reduceLeDiff, tyF]
    exact hm1
  rw [decide_eq_true h12]
  simp (config := {maxSteps := 1000000, implicitDefEqProofs := false}) only [↓zvD, zvU, ↓up_apply, ↓hv_apply, ↓upO_some, ↓upO_none, ↓ev_tmp, ↓ev_const, ↓ev_func, ↓ev_global, init, Nat.reduceEqDiff, Nat.reduceAdd, Nat.reduceMul, Nat.reduceSub, ↓reduceIte, Int.reduceEq, Int.reduceNe, Nat.reduceLeDiff, one, Value.cells, Int.reduceLE, Int.reduceLT, Int.reduceToNat, add_mk, reduceCtorEq, List.mem_range'_1, true_and, and_true, and_false, false_and, Nat.reduceLT, Nat.reduceLeDiff, tyF, g0 0 (by omega), g0 1 (by omega), g0 8 (by omega), g0 11 (by omega), g0 9 (by omega), g0 10 (by omega), g0 12 (by omega)]
  simp (config := {maxSteps := 1000000, implicitDefEqProofs := false}) only [↓zvD, zvU, ↓up_apply, ↓hv_apply, ↓upO_some, ↓upO_none, ↓ev_tmp, ↓ev_const, ↓ev_func, ↓ev_global, init, Nat.reduceEqDiff, Nat.reduceAdd, Nat.reduceMul, Nat.reduceSub, ↓reduceIte, Int.reduceEq, Int.reduceNe, Nat.reduceLeDiff, one, Value.cells, Int.reduceLE, Int.reduceLT, Int.reduceToNat, add_mk, reduceCtorEq, List.mem_range'_1, true_and, and_true, and_false, false_and, Nat.reduceLT, Nat.reduceLeDiff, tyF, hv]
  refine call_ok Tryz.call152 (config_parts _ c hc) ?_
  rintro _ w2 ⟨rfl, hm2⟩
  simp (config := {maxSteps := 1000000, implicitDefEqProofs := false}) only [↓zvD, zvU, ↓up_apply, ↓hv_apply, ↓upO_some, ↓upO_none, ↓ev_tmp, ↓ev_const, ↓ev_func, ↓ev_global, init, Nat.reduceEqDiff, Nat.reduceAdd, Nat.reduceMul, Nat.reduceSub, ↓reduceIte, Int.reduceEq, Int.reduceNe, Nat.reduceLeDiff, one, Value.cells, Int.reduceLE, Int.reduceLT, Int.reduceToNat, add_mk, reduceCtorEq, List.mem_range'_1, true_and, and_true, and_false, false_and, Nat.reduceLT, Nat.reduceLeDiff, tyF]
  refine ⟨?_, hm1.trans hm2⟩
  congr 1
  exact decide_eq_decide.2 ⟨fun h => (parts_right c).2 ⟨h0, h1, h8, h11, h9, h10, h12, h⟩, fun h => ((parts_right c).1 h).2.2.2.2.2.2.2⟩
end Go.Proofs.YtahcaplhdgphcaaGreat
