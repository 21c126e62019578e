/-
  A copy of bytes in memory of its own.
-/
import Derived.Test.YtahcaplhdgphcaaGreatNum
import Derived.Test.YtahcaplhdgphcaaGreatTy
import Derived.Test.YtahcaplhdgphcaaGreatAp
namespace Go.Proofs.YtahcaplhdgphcaaGreat
open Go Go.RowKit Go.Proofs.RV
set_option linter.unusedSimpArgs false
set_option linter.unusedVariables false

theorem byteE : ElemT Tryz.prog 5 (.int .u8 0) 1 1 := by unfold ElemT; kernel_rfl
set_option maxHeartbeats 1000000 in
/-- a copy in memory of its own -/
theorem clone (w : World) (A : Option Addr) (l : List UInt8) (c : Nat) (hA : Bs w A l) (hl : l.length ≤ 140737488355328) :
    Ret Tryz.prog 89 #[.slice A l.length c] w fun v w' => ∃ A' c', v = .slice A' l.length c' ∧ Own w' w.heap.size 5 1 A' l.length c' (l.map byteV) ∧ More w w' := by
  refine ret_of Tryz.func89 rfl (by kernel_rfl) (by show 1 ≤ 8; omega) ?_
  simp (config := {maxSteps := 1000000, implicitDefEqProofs := false}) only [↓zvD, zvU, ↓up_apply, ↓hv_apply, ↓upO_some, ↓upO_none, ↓ev_tmp, ↓ev_const, ↓ev_func, ↓ev_global, init, Nat.reduceEqDiff, Nat.reduceAdd, Nat.reduceMul, Nat.reduceSub, ↓reduceIte, Int.reduceEq, Int.reduceNe, Nat.reduceLeDiff, one, Value.cells, Int.reduceLE, Int.reduceLT, Int.reduceToNat, add_mk, reduceCtorEq, List.mem_range'_1, true_and, and_true, and_false, false_and, Nat.reduceLT, Nat.reduceLeDiff, tyF]
  refine ⟨fun hnone => ?_, fun _ => ?_⟩
  · have : l = [] := by
      cases l with
      | nil => rfl
      | cons b r =>
        obtain ⟨a, ha, _⟩ := hA.at_ (i := 0) (by simp)
        rw [ha] at hnone
        cases hnone
    subst this
    exact ⟨none, 0, rfl, Own.nil _ _ _ _, More.refl w⟩
  · refine bslice (cells := #[]) Tryz.underlying40 byteE (by omega) (bcells_list [] (by simp)) ?_
    simp (config := {maxSteps := 1000000, implicitDefEqProofs := false}) only [↓zvD, zvU, ↓up_apply, ↓hv_apply, ↓upO_some, ↓upO_none, ↓ev_tmp, ↓ev_const, ↓ev_func, ↓ev_global, init, Nat.reduceEqDiff, Nat.reduceAdd, Nat.reduceMul, Nat.reduceSub, ↓reduceIte, Int.reduceEq, Int.reduceNe, Nat.reduceLeDiff, one, Value.cells, Int.reduceLE, Int.reduceLT, Int.reduceToNat, add_mk, reduceCtorEq, List.mem_range'_1, true_and, and_true, and_false, false_and, Nat.reduceLT, Nat.reduceLeDiff]
    have hm := more_alloc w (.cells #[] 5)
    refine app_own Tryz.underlying40 byteE rfl (by omega) (Own.made w _ 1 #[] 0 rfl (by simp [maxLen]) (Nat.le_refl _)) (hA.more hm) (by simp) (byteV_one l) (by simp only [maxLen]; omega) (by omega) (by rw [size_alloc]; omega) ?_
    intro A' c' w' hown hg _
    simp (config := {maxSteps := 1000000, implicitDefEqProofs := false}) only [↓zvD, zvU, ↓up_apply, ↓hv_apply, ↓upO_some, ↓upO_none, ↓ev_tmp, ↓ev_const, ↓ev_func, ↓ev_global, init, Nat.reduceEqDiff, Nat.reduceAdd, Nat.reduceMul, Nat.reduceSub, ↓reduceIte, Int.reduceEq, Int.reduceNe, Nat.reduceLeDiff, one, Value.cells, Int.reduceLE, Int.reduceLT, Int.reduceToNat, add_mk, reduceCtorEq, List.mem_range'_1, true_and, and_true, and_false, false_and, Nat.reduceLT, Nat.reduceLeDiff, tyF]
    refine ⟨A', c', by simp, by simpa using hown, ?_⟩
    exact grown_below (Own.made w _ 1 #[] 0 rfl (by simp [maxLen]) (Nat.le_refl _)) hm (by rw [size_alloc]; omega) hg
def noBytes (n : Nat) : List UInt8 := List.replicate n 0
def lenOf : Value → Nat
  | .slice _ n _ => n
  | _ => 0
def numOf : Value → Int
  | .int _ n => n
  | _ => 0
theorem adv_add (b o n c k s : Nat) (h : c ≠ k) : adv (some ⟨b, o, none⟩) c k s = some ⟨b, o + k * s, none⟩ := by
  unfold adv
  rw [if_neg h, Option.map_some, add_mk]
end Go.Proofs.YtahcaplhdgphcaaGreat
