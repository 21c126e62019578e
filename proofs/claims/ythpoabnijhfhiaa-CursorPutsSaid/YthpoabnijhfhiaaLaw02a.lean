/-
  Layer 2: what an idle program answers wrongly; CursorParts and CursorNil.
-/
import Derived.Test.YthpoabnijhfhiaaCurRef
namespace Go.Proofs.Ythpoabnijhfhiaa
open Go Go.RowKit Go.Proofs.RV
set_option linter.unusedSimpArgs false
set_option linter.unusedVariables false
set_option maxRecDepth 10000
set_option maxHeartbeats 4000000

theorem law02_awake (w : World) : Ret Try.prog 16 #[] w fun v w' => v = .bool true ∧ More w w' := by
  refine ret_of Try.func16 rfl (by kernel_rfl) (Nat.le_of_ble_eq_true (by kernel_rfl)) ?_
  simp (config := {maxSteps := 1000000}) only [↓zvD, zvU, ↓up_apply, ↓hv_apply, ↓upO_some, ↓upO_none, ↓ev_tmp, ↓ev_const, ↓ev_func, ↓ev_global, init, Nat.reduceEqDiff, Nat.reduceAdd, Nat.reduceMul, Nat.reduceSub, ↓reduceIte, Int.reduceEq, Int.reduceNe, Nat.reduceLeDiff, one, Value.cells, Int.reduceLE, Int.reduceLT, Int.reduceToNat, add_mk, reduceCtorEq, List.mem_range'_1, true_and, and_true, and_false, false_and, Nat.reduceLT, Nat.reduceLeDiff, tyF, zerOut]
  have hm1 := more_alloc w (.cells #[.slice none 0 0] 25)
  have ho1 := out_made w
  have s1 := size_alloc w (.cells #[.slice none 0 0] 25)
  generalize w.alloc (.cells #[.slice none 0 0] 25) = w1 at hm1 ho1 s1 ⊢
  refine call_ok Try.call25 (out_u16 w1 _ _ _ _ _ 258 ho1 (by simp) (by omega) (by omega)) ?_
  rintro _ w2 ⟨rfl, A2, c2, ho2, hmod2, _⟩
  have hm2 : More w w2 := Mod.more hm1 hmod2 fun k hk hh => by
    have := ho1.ge hh
    omega
  have e2 : [] ++ numB 258 2 = [1, 2] := by decide
  rw [e2] at ho2
  simp (config := {maxSteps := 1000000}) only [↓zvD, zvU, ↓up_apply, ↓hv_apply, ↓upO_some, ↓upO_none, ↓ev_tmp, ↓ev_const, ↓ev_func, ↓ev_global, init, Nat.reduceEqDiff, Nat.reduceAdd, Nat.reduceMul, Nat.reduceSub, ↓reduceIte, Int.reduceEq, Int.reduceNe, Nat.reduceLeDiff, one, Value.cells, Int.reduceLE, Int.reduceLT, Int.reduceToNat, add_mk, reduceCtorEq, List.mem_range'_1, true_and, and_true, and_false, false_and, Nat.reduceLT, Nat.reduceLeDiff, tyF]
  refine call_ok Try.call19 (out_bytes w2 _ _ _ _ _ ho2 (by simp)) ?_
  rintro _ w3 ⟨A3, c3, rfl, ho3, hm3⟩
  have y3 := conv_eq (P := Try.prog) (w := w3) Try.underlying22 Try.underlying5 Try.underlying9 ho3.cs c3
  have e3 : (ByteArray.mk #[1, 2]) = bstr [1, 2] := rfl
  simp (config := {maxSteps := 1000000}) only [↓zvD, zvU, ↓up_apply, ↓hv_apply, ↓upO_some, ↓upO_none, ↓ev_tmp, ↓ev_const, ↓ev_func, ↓ev_global, init, Nat.reduceEqDiff, Nat.reduceAdd, Nat.reduceMul, Nat.reduceSub, ↓reduceIte, Int.reduceEq, Int.reduceNe, Nat.reduceLeDiff, one, Value.cells, Int.reduceLE, Int.reduceLT, Int.reduceToNat, add_mk, reduceCtorEq, List.mem_range'_1, true_and, and_true, and_false, false_and, Nat.reduceLT, Nat.reduceLeDiff, tyF, y3, e3, str_eq]
  have hm13 := hm2.trans hm3
  refine bslice (z := .int .u8 0) (cells := (([7] : List UInt8).map byteV).toArray) Try.underlying22 byteE (by omega) (by have := bcells_list (z := .int .u8 0) (([7] : List UInt8).map byteV) (by intro v hv; obtain ⟨b, _, rfl⟩ := List.mem_map.1 hv; rfl); exact this) ?_
  have hm4 := more_alloc w3 (.cells (([7] : List UInt8).map byteV).toArray 5)
  have hb4 := Blk.new w3 5 (([7] : List UInt8).map byteV).toArray
  generalize w3.alloc (.cells (([7] : List UInt8).map byteV).toArray 5) = w4 at hm4 hb4 ⊢
  simp (config := {maxSteps := 1000000}) only [↓zvD, zvU, ↓up_apply, ↓hv_apply, ↓upO_some, ↓upO_none, ↓ev_tmp, ↓ev_const, ↓ev_func, ↓ev_global, init, Nat.reduceEqDiff, Nat.reduceAdd, Nat.reduceMul, Nat.reduceSub, ↓reduceIte, Int.reduceEq, Int.reduceNe, Nat.reduceLeDiff, one, Value.cells, Int.reduceLE, Int.reduceLT, Int.reduceToNat, add_mk, reduceCtorEq, List.mem_range'_1, true_and, and_true, and_false, false_and, Nat.reduceLT, Nat.reduceLeDiff, tyF]
  refine call_ok Try.call18 (cur_new w4 _ [7] 1 hb4.cs (by simp)) ?_
  rintro _ w5 ⟨q, rfl, hq, hI, hm5⟩
  simp (config := {maxSteps := 1000000}) only [↓zvD, zvU, ↓up_apply, ↓hv_apply, ↓upO_some, ↓upO_none, ↓ev_tmp, ↓ev_const, ↓ev_func, ↓ev_global, init, Nat.reduceEqDiff, Nat.reduceAdd, Nat.reduceMul, Nat.reduceSub, ↓reduceIte, Int.reduceEq, Int.reduceNe, Nat.reduceLeDiff, one, Value.cells, Int.reduceLE, Int.reduceLT, Int.reduceToNat, add_mk, reduceCtorEq, List.mem_range'_1, true_and, and_true, and_false, false_and, Nat.reduceLT, Nat.reduceLeDiff, tyF]
  refine call_ok Try.call76 (cur_u8 w5 _ q _ hI (by simp)) ?_
  rintro _ w6 ⟨rfl, hI6, hb6⟩
  have e6 : be ((InM.mk [7] false).take 1).1 = 7 := by decide
  rw [e6]
  simp (config := {maxSteps := 1000000}) only [↓zvD, zvU, ↓up_apply, ↓hv_apply, ↓upO_some, ↓upO_none, ↓ev_tmp, ↓ev_const, ↓ev_func, ↓ev_global, init, Nat.reduceEqDiff, Nat.reduceAdd, Nat.reduceMul, Nat.reduceSub, ↓reduceIte, Int.reduceEq, Int.reduceNe, Nat.reduceLeDiff, one, Value.cells, Int.reduceLE, Int.reduceLT, Int.reduceToNat, add_mk, reduceCtorEq, List.mem_range'_1, true_and, and_true, and_false, false_and, Nat.reduceLT, Nat.reduceLeDiff, tyF]
  exact more_but ((hm13.trans hm4).trans hm5) hb6 (Nat.le_trans (hm13.trans hm4).size hq)

end Go.Proofs.Ythpoabnijhfhiaa
