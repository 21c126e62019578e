/-
  Layer 1: what is counted (num.Count, num.Add of two).
-/
import Derived.Test.YtahcaplhdgphcaaGreatCopy
import Derived.Test.YtahcaplhdgphcaaGreatFi
namespace Go.Proofs.YtahcaplhdgphcaaGreat
open Go Go.RowKit Go.Proofs.RV
set_option linter.unusedSimpArgs false
set_option linter.unusedVariables false
set_option maxRecDepth 10000
set_option maxHeartbeats 2000000

def countM (n : Int) : Int := max 0 (min n 4611686018427387904)
theorem countM_range (n : Int) : 0 ≤ countM n ∧ countM n ≤ 4611686018427387904 := by unfold countM; omega
theorem num_count (w : World) (n : Int) : Ret Tryz.prog 88 #[.int .i64 n] w fun v w' => v = .int .i64 (countM n) ∧ w' = w := by
  refine ret_of Tryz.func88 rfl (by kernel_rfl) (Nat.le_of_ble_eq_true (by kernel_rfl)) ?_
  simp (config := {maxSteps := 1000000, implicitDefEqProofs := false}) only [↓zvD, zvU, ↓up_apply, ↓hv_apply, ↓upO_some, ↓upO_none, ↓ev_tmp, ↓ev_const, ↓ev_func, ↓ev_global, init, Nat.reduceEqDiff, Nat.reduceAdd, Nat.reduceMul, Nat.reduceSub, ↓reduceIte, Int.reduceEq, Int.reduceNe, Nat.reduceLeDiff, one, Value.cells, Int.reduceLE, Int.reduceLT, Int.reduceToNat, add_mk, reduceCtorEq, List.mem_range'_1, true_and, and_true, and_false, false_and, Nat.reduceLT, Nat.reduceLeDiff, tyF]
  congr 1
  unfold countM
  split <;> split at * <;> omega
/-- two counts together -/
def addM (a b : Int) : Int := min (countM a + countM b) 4611686018427387904
theorem addM_range (a b : Int) : 0 ≤ addM a b ∧ addM a b ≤ 4611686018427387904 := by
  have := countM_range a; have := countM_range b
  unfold addM; omega
/-- what the first k of two come to -/
def add2 (a b : Int) : Nat → Int
  | 0 => 0
  | 1 => countM a
  | _ => addM a b
theorem add2_range (a b : Int) (k : Nat) : 0 ≤ add2 a b k ∧ add2 a b k ≤ 4611686018427387904 := by
  match k with
  | 0 => simp [add2]
  | 1 => exact countM_range a
  | k + 2 => exact addM_range a b
def two2 (a b : Int) : List Value := [.int .i64 a, .int .i64 b]
def AddJ (a b : Int) (q : Nat) (w : World) (v3 v9 : Value) (w' : World) : Prop :=
  ∃ k : Nat, v9 = .int .i64 k ∧ v3 = .int .i64 (add2 a b k) ∧ k ≤ 2 ∧ w' = w
theorem num_add (w : World) (a b : Int) (q : Nat) (hq : Blk w q 2 (two2 a b)) : Ret Tryz.prog 56 #[.slice (some ⟨q, 0, none⟩) 2 2] w fun v w' => v = .int .i64 (addM a b) ∧ w' = w := by
  refine ret_of Tryz.func56 rfl (by kernel_rfl) (Nat.le_of_ble_eq_true (by kernel_rfl)) ?_
  simp (config := {maxSteps := 1000000, implicitDefEqProofs := false}) only [↓zvD, zvU, ↓up_apply, ↓hv_apply, ↓upO_some, ↓upO_none, ↓ev_tmp, ↓ev_const, ↓ev_func, ↓ev_global, init, Nat.reduceEqDiff, Nat.reduceAdd, Nat.reduceMul, Nat.reduceSub, ↓reduceIte, Int.reduceEq, Int.reduceNe, Nat.reduceLeDiff, one, Value.cells, Int.reduceLE, Int.reduceLT, Int.reduceToNat, add_mk, reduceCtorEq, List.mem_range'_1, true_and, and_true, and_false, false_and, Nat.reduceLT, Nat.reduceLeDiff, tyF]
  refine loop_p [3, 5, 6, 9, 10, 11, 12, 13, 14, 15, 16, 17, 18, 19, 20, 21, 22] (fun e w' => AddJ a b q w (e 3) (e 9) w') (fun e _ => 2 - (numOf (e 9)).toNat) ?_ ?_
  · exact ⟨0, by simp only [hv_apply, up_apply, upO_some, upO_none, init, List.mem_cons, List.mem_range'_1, true_and, and_true, and_false, false_and, Nat.reduceLT, Nat.reduceLeDiff, Nat.reduceAdd, true_or, or_true, if_true, if_false, ↓reduceIte, Nat.reduceEqDiff, false_or, or_false, List.not_mem_nil, List.getElem?_cons_zero, List.getElem?_cons_succ, Option.getD_some]; rfl, by simp only [hv_apply, up_apply, upO_some, upO_none, init, List.mem_cons, List.mem_range'_1, true_and, and_true, and_false, false_and, Nat.reduceLT, Nat.reduceLeDiff, Nat.reduceAdd, true_or, or_true, if_true, if_false, ↓reduceIte, Nat.reduceEqDiff, false_or, or_false, List.not_mem_nil, List.getElem?_cons_zero, List.getElem?_cons_succ, Option.getD_some]; rfl, by omega, rfl⟩
  rintro v w1 ⟨k, h9, h3, hk, rfl⟩
  simp only [hv_apply, up_apply, upO_some, upO_none, init, List.mem_cons, List.mem_range'_1, true_and, and_true, and_false, false_and, Nat.reduceLT, Nat.reduceLeDiff, Nat.reduceAdd, true_or, or_true, if_true, if_false, ↓reduceIte, Nat.reduceEqDiff, false_or, or_false, List.not_mem_nil, List.getElem?_cons_zero, List.getElem?_cons_succ, Option.getD_some] at h9 h3
  have hr := add2_range a b k
  have ek : IntKind.i64.wrap ((k : Int) + 1) = ((k + 1 : Nat) : Int) := w64 (by omega) (by omega)
  simp (config := {maxSteps := 1000000, implicitDefEqProofs := false}) only [↓zvD, zvU, ↓up_apply, ↓hv_apply, ↓upO_some, ↓upO_none, ↓ev_tmp, ↓ev_const, ↓ev_func, ↓ev_global, init, Nat.reduceEqDiff, Nat.reduceAdd, Nat.reduceMul, Nat.reduceSub, ↓reduceIte, Int.reduceEq, Int.reduceNe, Nat.reduceLeDiff, one, Value.cells, Int.reduceLE, Int.reduceLT, Int.reduceToNat, add_mk, reduceCtorEq, List.mem_range'_1, true_and, and_true, and_false, false_and, Nat.reduceLT, Nat.reduceLeDiff, tyF, h9, h3]
  refine ⟨fun h10 => ?_, fun h10 => ?_⟩
  · obtain ⟨y, hc, hst⟩ : ∃ y, w1.cell? ⟨q, k, none⟩ = some (.int .i64 y) ∧ add2 a b (k + 1) = min (add2 a b k + countM y) 4611686018427387904 := by
      have ha := countM_range a
      have hb := countM_range b
      match k, h10 with
      | 0, _ => exact ⟨a, by rw [hq.cell]; rfl, by simp only [add2]; omega⟩
      | 1, _ => exact ⟨b, by rw [hq.cell]; rfl, by simp only [add2, addM]⟩
    have hy := countM_range y
    have g0 : (0 : Int) ≤ (k : Int) := by omega
    have es : IntKind.i64.wrap (4611686018427387904 - add2 a b k) = 4611686018427387904 - add2 a b k := w64 (by omega) (by omega)
    simp (config := {maxSteps := 1000000, implicitDefEqProofs := false}) only [↓zvD, zvU, ↓up_apply, ↓hv_apply, ↓upO_some, ↓upO_none, ↓ev_tmp, ↓ev_const, ↓ev_func, ↓ev_global, init, Nat.reduceEqDiff, Nat.reduceAdd, Nat.reduceMul, Nat.reduceSub, ↓reduceIte, Int.reduceEq, Int.reduceNe, Nat.reduceLeDiff, one, Value.cells, Int.reduceLE, Int.reduceLT, Int.reduceToNat, add_mk, reduceCtorEq, List.mem_range'_1, true_and, and_true, and_false, false_and, Nat.reduceLT, Nat.reduceLeDiff, tyF, h9, h3, g0, h10, hc, Int.toNat_natCast]
    refine call_ok Tryz.call88 (num_count w1 y) ?_
    rintro _ w2 ⟨rfl, rfl⟩
    simp (config := {maxSteps := 1000000, implicitDefEqProofs := false}) only [↓zvD, zvU, ↓up_apply, ↓hv_apply, ↓upO_some, ↓upO_none, ↓ev_tmp, ↓ev_const, ↓ev_func, ↓ev_global, init, Nat.reduceEqDiff, Nat.reduceAdd, Nat.reduceMul, Nat.reduceSub, ↓reduceIte, Int.reduceEq, Int.reduceNe, Nat.reduceLeDiff, one, Value.cells, Int.reduceLE, Int.reduceLT, Int.reduceToNat, add_mk, reduceCtorEq, List.mem_range'_1, true_and, and_true, and_false, false_and, Nat.reduceLT, Nat.reduceLeDiff, tyF, h9, h3, es]
    refine ⟨fun h11 => ?_, fun h11 => ?_⟩
    · simp (config := {maxSteps := 1000000, implicitDefEqProofs := false}) only [↓zvD, zvU, ↓up_apply, ↓hv_apply, ↓upO_some, ↓upO_none, ↓ev_tmp, ↓ev_const, ↓ev_func, ↓ev_global, init, Nat.reduceEqDiff, Nat.reduceAdd, Nat.reduceMul, Nat.reduceSub, ↓reduceIte, Int.reduceEq, Int.reduceNe, Nat.reduceLeDiff, one, Value.cells, Int.reduceLE, Int.reduceLT, Int.reduceToNat, add_mk, reduceCtorEq, List.mem_range'_1, true_and, and_true, and_false, false_and, Nat.reduceLT, Nat.reduceLeDiff, tyF, h9, h3, ek]
      refine ⟨⟨?_, k + 1, rfl, by congr 1; omega, by omega, rfl⟩, by simp only [numOf]; omega⟩
      repeat (first | exact Same.hv _ _ _ | refine Same.up (by simp) ?_)
    · have ea : IntKind.i64.wrap (add2 a b k + countM y) = add2 a b k + countM y := w64 (by omega) (by omega)
      simp (config := {maxSteps := 1000000, implicitDefEqProofs := false}) only [↓zvD, zvU, ↓up_apply, ↓hv_apply, ↓upO_some, ↓upO_none, ↓ev_tmp, ↓ev_const, ↓ev_func, ↓ev_global, init, Nat.reduceEqDiff, Nat.reduceAdd, Nat.reduceMul, Nat.reduceSub, ↓reduceIte, Int.reduceEq, Int.reduceNe, Nat.reduceLeDiff, one, Value.cells, Int.reduceLE, Int.reduceLT, Int.reduceToNat, add_mk, reduceCtorEq, List.mem_range'_1, true_and, and_true, and_false, false_and, Nat.reduceLT, Nat.reduceLeDiff, tyF, h9, h3, ek, ea]
      refine ⟨⟨?_, k + 1, rfl, by congr 1; omega, by omega, rfl⟩, by simp only [numOf]; omega⟩
      repeat (first | exact Same.hv _ _ _ | refine Same.up (by simp) ?_)
  · obtain rfl : k = 2 := by omega
    rfl
end Go.Proofs.YtahcaplhdgphcaaGreat
