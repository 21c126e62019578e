/-
  Layer 2: the rest of what takes.
-/
import Derived.Test.YtahcaplhdgphcaaGreatCurNum
namespace Go.Proofs.YtahcaplhdgphcaaGreat
open Go Go.RowKit Go.Proofs.RV
set_option linter.unusedSimpArgs false
set_option linter.unusedVariables false
set_option maxRecDepth 10000
set_option maxHeartbeats 2000000

theorem cur_u8 (w : World) (F : Nat → Prop) (q : Nat) (s : InM) (hI : InW w F q s) (hl : s.rest.length ≤ 4000000) :
    Ret Tryz.prog 81 #[.pointer (some ⟨q, 0, none⟩)] w fun v w' => v = .int .u8 (be (s.take 1).1) ∧ InW w' F q (s.take 1).2 ∧ But q w w' := by
  refine ret_of Tryz.func81 rfl (by kernel_rfl) (Nat.le_of_ble_eq_true (by kernel_rfl)) ?_
  simp (config := {maxSteps := 1000000, implicitDefEqProofs := false}) only [↓zvD, zvU, ↓up_apply, ↓hv_apply, ↓upO_some, ↓upO_none, ↓ev_tmp, ↓ev_const, ↓ev_func, ↓ev_global, init, Nat.reduceEqDiff, Nat.reduceAdd, Nat.reduceMul, Nat.reduceSub, ↓reduceIte, Int.reduceEq, Int.reduceNe, Nat.reduceLeDiff, one, Value.cells, Int.reduceLE, Int.reduceLT, Int.reduceToNat, add_mk, reduceCtorEq, List.mem_range'_1, true_and, and_true, and_false, false_and, Nat.reduceLT, Nat.reduceLeDiff, tyF]
  refine call_ok Tryz.call148 (cur_num w F q s 1 hI hl (by omega) (by omega)) ?_
  rintro _ w1 ⟨rfl, hI1, hb⟩
  have hr := be_range (s.take 1).1
  have hr2 : be (s.take 1).1 < (256 ^ 1 : Nat) := be_lt (s.take_len 1)
  simp (config := {maxSteps := 1000000, implicitDefEqProofs := false}) only [↓zvD, zvU, ↓up_apply, ↓hv_apply, ↓upO_some, ↓upO_none, ↓ev_tmp, ↓ev_const, ↓ev_func, ↓ev_global, init, Nat.reduceEqDiff, Nat.reduceAdd, Nat.reduceMul, Nat.reduceSub, ↓reduceIte, Int.reduceEq, Int.reduceNe, Nat.reduceLeDiff, one, Value.cells, Int.reduceLE, Int.reduceLT, Int.reduceToNat, add_mk, reduceCtorEq, List.mem_range'_1, true_and, and_true, and_false, false_and, Nat.reduceLT, Nat.reduceLeDiff, tyF, (wu8 hr.1 (by omega) : _ = be (s.take 1).1)]
  exact ⟨hI1, hb⟩
theorem cur_u64 (w : World) (F : Nat → Prop) (q : Nat) (s : InM) (hI : InW w F q s) (hl : s.rest.length ≤ 4000000) :
    Ret Tryz.prog 145 #[.pointer (some ⟨q, 0, none⟩)] w fun v w' => v = .int .u64 (be (s.take 8).1) ∧ InW w' F q (s.take 8).2 ∧ But q w w' := by
  refine ret_of Tryz.func145 rfl (by kernel_rfl) (Nat.le_of_ble_eq_true (by kernel_rfl)) ?_
  simp (config := {maxSteps := 1000000, implicitDefEqProofs := false}) only [↓zvD, zvU, ↓up_apply, ↓hv_apply, ↓upO_some, ↓upO_none, ↓ev_tmp, ↓ev_const, ↓ev_func, ↓ev_global, init, Nat.reduceEqDiff, Nat.reduceAdd, Nat.reduceMul, Nat.reduceSub, ↓reduceIte, Int.reduceEq, Int.reduceNe, Nat.reduceLeDiff, one, Value.cells, Int.reduceLE, Int.reduceLT, Int.reduceToNat, add_mk, reduceCtorEq, List.mem_range'_1, true_and, and_true, and_false, false_and, Nat.reduceLT, Nat.reduceLeDiff, tyF]
  refine call_ok Tryz.call148 (cur_num w F q s 8 hI hl (by omega) (by omega)) ?_
  rintro _ w1 ⟨rfl, hI1, hb⟩
  have hr := be_range (s.take 8).1
  have hr2 : be (s.take 8).1 < (256 ^ 8 : Nat) := be_lt (s.take_len 8)
  simp (config := {maxSteps := 1000000, implicitDefEqProofs := false}) only [↓zvD, zvU, ↓up_apply, ↓hv_apply, ↓upO_some, ↓upO_none, ↓ev_tmp, ↓ev_const, ↓ev_func, ↓ev_global, init, Nat.reduceEqDiff, Nat.reduceAdd, Nat.reduceMul, Nat.reduceSub, ↓reduceIte, Int.reduceEq, Int.reduceNe, Nat.reduceLeDiff, one, Value.cells, Int.reduceLE, Int.reduceLT, Int.reduceToNat, add_mk, reduceCtorEq, List.mem_range'_1, true_and, and_true, and_false, false_and, Nat.reduceLT, Nat.reduceLeDiff, tyF, (rfl : _ = be (s.take 8).1)]
  exact ⟨hI1, hb⟩

def InM.left (s : InM) : Nat := if s.bad = true then 0 else s.rest.length
def InM.done (s : InM) : Bool := !s.bad && decide (s.rest.length = 0)
theorem cur_left (w : World) (F : Nat → Prop) (q : Nat) (s : InM) (hI : InW w F q s) :
    Ret Tryz.prog 79 #[.pointer (some ⟨q, 0, none⟩)] w fun v w' => v = .int .i64 s.left ∧ w' = w := by
  obtain ⟨A, c, hb, hA, hc, hne, hF⟩ := hI
  refine ret_of Tryz.func79 rfl (by kernel_rfl) (Nat.le_of_ble_eq_true (by kernel_rfl)) ?_
  unfold InM.left
  cases h : s.bad <;> simp (config := {maxSteps := 1000000, implicitDefEqProofs := false}) only [↓zvD, zvU, ↓up_apply, ↓hv_apply, ↓upO_some, ↓upO_none, ↓ev_tmp, ↓ev_const, ↓ev_func, ↓ev_global, init, Nat.reduceEqDiff, Nat.reduceAdd, Nat.reduceMul, Nat.reduceSub, ↓reduceIte, Int.reduceEq, Int.reduceNe, Nat.reduceLeDiff, one, Value.cells, Int.reduceLE, Int.reduceLT, Int.reduceToNat, add_mk, reduceCtorEq, List.mem_range'_1, true_and, and_true, and_false, false_and, Nat.reduceLT, Nat.reduceLeDiff, tyF, hb.cell, h, if_true, if_false]
theorem cur_done (w : World) (F : Nat → Prop) (q : Nat) (s : InM) (hI : InW w F q s) :
    Ret Tryz.prog 191 #[.pointer (some ⟨q, 0, none⟩)] w fun v w' => v = .bool s.done ∧ w' = w := by
  obtain ⟨A, c, hb, hA, hc, hne, hF⟩ := hI
  refine ret_of Tryz.func191 rfl (by kernel_rfl) (Nat.le_of_ble_eq_true (by kernel_rfl)) ?_
  unfold InM.done
  cases h : s.bad <;> simp (config := {maxSteps := 1000000, implicitDefEqProofs := false}) only [↓zvD, zvU, ↓up_apply, ↓hv_apply, ↓upO_some, ↓upO_none, ↓ev_tmp, ↓ev_const, ↓ev_func, ↓ev_global, init, Nat.reduceEqDiff, Nat.reduceAdd, Nat.reduceMul, Nat.reduceSub, ↓reduceIte, Int.reduceEq, Int.reduceNe, Nat.reduceLeDiff, one, Value.cells, Int.reduceLE, Int.reduceLT, Int.reduceToNat, add_mk, reduceCtorEq, List.mem_range'_1, true_and, and_true, and_false, false_and, Nat.reduceLT, Nat.reduceLeDiff, tyF, hb.cell, h, Bool.false_and, Bool.true_and, Int.natCast_eq_zero]
theorem cur_fail (w : World) (F : Nat → Prop) (q : Nat) (s : InM) (hI : InW w F q s) :
    Ret Tryz.prog 146 #[.pointer (some ⟨q, 0, none⟩)] w fun v w' => v = .tuple #[] ∧ InW w' F q ⟨s.rest, true⟩ ∧ But q w w' := by
  obtain ⟨A, c, hb, hA, hc, hne, hF⟩ := hI
  refine ret_of Tryz.func146 rfl (by kernel_rfl) (Nat.le_of_ble_eq_true (by kernel_rfl)) ?_
  simp (config := {maxSteps := 1000000, implicitDefEqProofs := false}) only [↓zvD, zvU, ↓up_apply, ↓hv_apply, ↓upO_some, ↓upO_none, ↓ev_tmp, ↓ev_const, ↓ev_func, ↓ev_global, init, Nat.reduceEqDiff, Nat.reduceAdd, Nat.reduceMul, Nat.reduceSub, ↓reduceIte, Int.reduceEq, Int.reduceNe, Nat.reduceLeDiff, one, Value.cells, Int.reduceLE, Int.reduceLT, Int.reduceToNat, add_mk, reduceCtorEq, List.mem_range'_1, true_and, and_true, and_false, false_and, Nat.reduceLT, Nat.reduceLeDiff, tyF, hb.cell]
  refine st_cell hb (by simp) rfl fun w1 k1 k2 => ?_
  exact ⟨⟨A, c, k2, (But.of_wr k1).bs hA hne, hc, hne, hF⟩, But.of_wr k1⟩

end Go.Proofs.YtahcaplhdgphcaaGreat
