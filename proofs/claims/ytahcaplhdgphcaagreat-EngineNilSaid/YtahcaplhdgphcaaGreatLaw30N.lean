/-
  Layer 30: a nil engine (EngineNil).
-/
import Derived.Test.YtahcaplhdgphcaaGreatAwake30
namespace Go.Proofs.YtahcaplhdgphcaaGreat
open Go Go.RowKit Go.Proofs.RV
set_option linter.unusedSimpArgs false
set_option linter.unusedVariables false
set_option maxRecDepth 10000
set_option maxHeartbeats 4000000
def depZ : List Value := [.int .i64 0, .int .i64 0, .int .i64 0, .int .i64 0, .int .i64 0]
theorem zerDep : zer Tryz.prog 49 = some (.agg depZ.toArray) := by rw [zer49]; rfl
theorem dep_var {w : World} {K : World → Prop} (hK : ∀ w', More w w' → Blk w' w.heap.size 49 depZ → K w') : stRow (depZ).length (depZ).toArray ⟨w.heap.size, 0, none⟩ (w.alloc (.cells (depZ).toArray 49)) K := by
  have hm := more_alloc w (.cells (depZ).toArray 49)
  have hb := Blk.new w 49 (depZ).toArray
  refine st_all hb (by simp) rfl (by intro u hu; simp [depZ, verCells, ints] at hu; first | (subst hu; rfl) | (rcases hu with rfl | rfl <;> rfl)) fun w' h1 h2 => hK w' (h1.below hm (Nat.le_refl _)) (by simpa using h2)
theorem ver_var {w : World} {K : World → Prop} (hK : ∀ w', More w w' → Blk w' w.heap.size 54 (verCells 0 0 0 0 false false) → K w') : stRow ((verCells 0 0 0 0 false false)).length ((verCells 0 0 0 0 false false)).toArray ⟨w.heap.size, 0, none⟩ (w.alloc (.cells ((verCells 0 0 0 0 false false)).toArray 54)) K := by
  have hm := more_alloc w (.cells ((verCells 0 0 0 0 false false)).toArray 54)
  have hb := Blk.new w 54 ((verCells 0 0 0 0 false false)).toArray
  refine st_all hb (by simp) rfl (by intro u hu; simp [depZ, verCells, ints] at hu; first | (subst hu; rfl) | (rcases hu with rfl | rfl <;> rfl)) fun w' h1 h2 => hK w' (h1.below hm (Nat.le_refl _)) (by simpa using h2)
theorem poll_nil (w : World) : Ret Tryz.prog 12 #[.pointer none] w fun v w' => v = .tuple #[.agg depZ.toArray, .bool false] ∧ More w w' := by
  refine ret_of Tryz.func12 rfl (by kernel_rfl) (Nat.le_of_ble_eq_true (by kernel_rfl)) ?_
  have b1 := build_of (P := Tryz.prog) (T := 49) (parts := #[]) depZ (by kernel_rfl) zerDep (by kernel_rfl) w
  simp (config := {maxSteps := 1000000, implicitDefEqProofs := false}) only [↓zvN, zvU, ↓up_apply, ↓hv_apply, ↓upO_some, ↓upO_none, ↓ev_tmp, ↓ev_const, ↓ev_func, ↓ev_global, init, Nat.reduceEqDiff, Nat.reduceAdd, Nat.reduceMul, Nat.reduceSub, ↓reduceIte, Int.reduceEq, Int.reduceNe, Nat.reduceLeDiff, one, Value.cells, Int.reduceLE, Int.reduceLT, Int.reduceToNat, add_mk, reduceCtorEq, List.mem_range'_1, true_and, and_true, and_false, false_and, Nat.reduceLT, Nat.reduceLeDiff, tyF, zerDep, b1]
  refine dep_var fun w1 hm1 hb1 => ?_
  rw [s2_undef]
  have l1 := hb1.all_eq 5 rfl
  simp (config := {maxSteps := 1000000, implicitDefEqProofs := false}) only [↓zvN, zvU, ↓up_apply, ↓hv_apply, ↓upO_some, ↓upO_none, ↓ev_tmp, ↓ev_const, ↓ev_func, ↓ev_global, init, Nat.reduceEqDiff, Nat.reduceAdd, Nat.reduceMul, Nat.reduceSub, ↓reduceIte, Int.reduceEq, Int.reduceNe, Nat.reduceLeDiff, one, Value.cells, Int.reduceLE, Int.reduceLT, Int.reduceToNat, add_mk, reduceCtorEq, List.mem_range'_1, true_and, and_true, and_false, false_and, Nat.reduceLT, Nat.reduceLeDiff, tyF, l1]
  exact hm1
theorem frame_nil (w : World) (A : Option Addr) (n c : Nat) (d : List Value) : Ret Tryz.prog 13 #[.pointer none, .slice A n c, .agg d.toArray] w fun v w' => v = .agg (verCells 0 0 0 0 false false).toArray ∧ More w w' := by
  refine ret_of Tryz.func13 rfl (by kernel_rfl) (Nat.le_of_ble_eq_true (by kernel_rfl)) ?_
  have b1 := build_of (P := Tryz.prog) (T := 54) (parts := #[]) (verCells 0 0 0 0 false false) (by kernel_rfl) zerVer (by kernel_rfl) w
  have hm0 := more_alloc w (.cells d.toArray 42)
  simp (config := {maxSteps := 1000000, implicitDefEqProofs := false}) only [↓zvN, zvU, ↓up_apply, ↓hv_apply, ↓upO_some, ↓upO_none, ↓ev_tmp, ↓ev_const, ↓ev_func, ↓ev_global, init, Nat.reduceEqDiff, Nat.reduceAdd, Nat.reduceMul, Nat.reduceSub, ↓reduceIte, Int.reduceEq, Int.reduceNe, Nat.reduceLeDiff, one, Value.cells, Int.reduceLE, Int.reduceLT, Int.reduceToNat, add_mk, reduceCtorEq, List.mem_range'_1, true_and, and_true, and_false, false_and, Nat.reduceLT, Nat.reduceLeDiff, tyF, zerVer, b1]
  obtain ⟨w1, hw1⟩ : ∃ w1, w.alloc (.cells d.toArray 42) = w1 := ⟨_, rfl⟩
  rw [hw1] at hm0 ⊢
  refine ver_var fun w2 hm2 hb2 => ?_
  rw [s2_undef]
  have l1 := hb2.all_eq 6 rfl
  simp (config := {maxSteps := 1000000, implicitDefEqProofs := false}) only [↓zvN, zvU, ↓up_apply, ↓hv_apply, ↓upO_some, ↓upO_none, ↓ev_tmp, ↓ev_const, ↓ev_func, ↓ev_global, init, Nat.reduceEqDiff, Nat.reduceAdd, Nat.reduceMul, Nat.reduceSub, ↓reduceIte, Int.reduceEq, Int.reduceNe, Nat.reduceLeDiff, one, Value.cells, Int.reduceLE, Int.reduceLT, Int.reduceToNat, add_mk, reduceCtorEq, List.mem_range'_1, true_and, and_true, and_false, false_and, Nat.reduceLT, Nat.reduceLeDiff, tyF, l1]
  exact hm0.trans hm2
theorem clock_nil (w : World) (t : Int) : Ret Tryz.prog 9 #[.pointer none, .int .i64 t] w fun v w' => v = .int .i64 1 ∧ More w w' := by
  refine ret_of Tryz.func9 rfl (by kernel_rfl) (Nat.le_of_ble_eq_true (by kernel_rfl)) ?_
  simp (config := {maxSteps := 1000000, implicitDefEqProofs := false}) only [↓zvN, zvU, ↓up_apply, ↓hv_apply, ↓upO_some, ↓upO_none, ↓ev_tmp, ↓ev_const, ↓ev_func, ↓ev_global, init, Nat.reduceEqDiff, Nat.reduceAdd, Nat.reduceMul, Nat.reduceSub, ↓reduceIte, Int.reduceEq, Int.reduceNe, Nat.reduceLeDiff, one, Value.cells, Int.reduceLE, Int.reduceLT, Int.reduceToNat, add_mk, reduceCtorEq, List.mem_range'_1, true_and, and_true, and_false, false_and, Nat.reduceLT, Nat.reduceLeDiff, tyF]
  exact More.refl _
theorem rekey_nil (w : World) (k : List Value) : Ret Tryz.prog 14 #[.pointer none, .agg k.toArray] w fun v w' => v = .int .i64 1 ∧ More w w' := by
  refine ret_of Tryz.func14 rfl (by kernel_rfl) (Nat.le_of_ble_eq_true (by kernel_rfl)) ?_
  have hm0 := more_alloc w (.cells k.toArray 31)
  simp (config := {maxSteps := 1000000, implicitDefEqProofs := false}) only [↓zvN, zvU, ↓up_apply, ↓hv_apply, ↓upO_some, ↓upO_none, ↓ev_tmp, ↓ev_const, ↓ev_func, ↓ev_global, init, Nat.reduceEqDiff, Nat.reduceAdd, Nat.reduceMul, Nat.reduceSub, ↓reduceIte, Int.reduceEq, Int.reduceNe, Nat.reduceLeDiff, one, Value.cells, Int.reduceLE, Int.reduceLT, Int.reduceToNat, add_mk, reduceCtorEq, List.mem_range'_1, true_and, and_true, and_false, false_and, Nat.reduceLT, Nat.reduceLeDiff, tyF]
  exact hm0
theorem unbox_nil (w : World) (p : List Value) : Ret Tryz.prog 15 #[.pointer none, .agg p.toArray] w fun v w' => v = .bool false ∧ More w w' := by
  refine ret_of Tryz.func15 rfl (by kernel_rfl) (Nat.le_of_ble_eq_true (by kernel_rfl)) ?_
  have hm0 := more_alloc w (.cells p.toArray 45)
  simp (config := {maxSteps := 1000000, implicitDefEqProofs := false}) only [↓zvN, zvU, ↓up_apply, ↓hv_apply, ↓upO_some, ↓upO_none, ↓ev_tmp, ↓ev_const, ↓ev_func, ↓ev_global, init, Nat.reduceEqDiff, Nat.reduceAdd, Nat.reduceMul, Nat.reduceSub, ↓reduceIte, Int.reduceEq, Int.reduceNe, Nat.reduceLeDiff, one, Value.cells, Int.reduceLE, Int.reduceLT, Int.reduceToNat, add_mk, reduceCtorEq, List.mem_range'_1, true_and, and_true, and_false, false_and, Nat.reduceLT, Nat.reduceLeDiff, tyF]
  refine draw_calm mixed (by kernel_rfl) ?_
  simp (config := {maxSteps := 1000000, implicitDefEqProofs := false}) only [↓zvN, zvU, ↓zqD, ↓up_apply, ↓hv_apply, ↓upO_some, ↓upO_none, ↓ev_tmp, ↓ev_const, ↓ev_func, ↓ev_global, init, Nat.reduceEqDiff, Nat.reduceAdd, Nat.reduceMul, Nat.reduceSub, ↓reduceIte, Int.reduceEq, Int.reduceNe, Nat.reduceLeDiff, one, Value.cells, Int.reduceLE, Int.reduceLT, Int.reduceToNat, add_mk, reduceCtorEq, List.mem_range'_1, true_and, and_true, and_false, false_and, Nat.reduceLT, Nat.reduceLeDiff, tyF]
  intro w2 hm2
  try simp (config := {maxSteps := 1000000, implicitDefEqProofs := false}) only [↓zvN, zvU, ↓up_apply, ↓hv_apply, ↓upO_some, ↓upO_none, ↓ev_tmp, ↓ev_const, ↓ev_func, ↓ev_global, init, Nat.reduceEqDiff, Nat.reduceAdd, Nat.reduceMul, Nat.reduceSub, ↓reduceIte, Int.reduceEq, Int.reduceNe, Nat.reduceLeDiff, one, Value.cells, Int.reduceLE, Int.reduceLT, Int.reduceToNat, add_mk, reduceCtorEq, List.mem_range'_1, true_and, and_true, and_false, false_and, Nat.reduceLT, Nat.reduceLeDiff, tyF]
  exact hm0.trans hm2
theorem flush_nil (w : World) : Ret Tryz.prog 16 #[.pointer none] w fun v w' => v = .slice none 0 0 ∧ More w w' := by
  refine ret_of Tryz.func16 rfl (by kernel_rfl) (Nat.le_of_ble_eq_true (by kernel_rfl)) ?_
  simp (config := {maxSteps := 1000000, implicitDefEqProofs := false}) only [↓zvN, zvU, ↓up_apply, ↓hv_apply, ↓upO_some, ↓upO_none, ↓ev_tmp, ↓ev_const, ↓ev_func, ↓ev_global, init, Nat.reduceEqDiff, Nat.reduceAdd, Nat.reduceMul, Nat.reduceSub, ↓reduceIte, Int.reduceEq, Int.reduceNe, Nat.reduceLeDiff, one, Value.cells, Int.reduceLE, Int.reduceLT, Int.reduceToNat, add_mk, reduceCtorEq, List.mem_range'_1, true_and, and_true, and_false, false_and, Nat.reduceLT, Nat.reduceLeDiff, tyF]
  exact More.refl _
theorem tune_nil (w : World) (c : List Value) : Ret Tryz.prog 17 #[.pointer none, .agg c.toArray] w fun v w' => v = .int .i64 1 ∧ More w w' := by
  refine ret_of Tryz.func17 rfl (by kernel_rfl) (Nat.le_of_ble_eq_true (by kernel_rfl)) ?_
  have hm0 := more_alloc w (.cells c.toArray 29)
  simp (config := {maxSteps := 1000000, implicitDefEqProofs := false}) only [↓zvN, zvU, ↓up_apply, ↓hv_apply, ↓upO_some, ↓upO_none, ↓ev_tmp, ↓ev_const, ↓ev_func, ↓ev_global, init, Nat.reduceEqDiff, Nat.reduceAdd, Nat.reduceMul, Nat.reduceSub, ↓reduceIte, Int.reduceEq, Int.reduceNe, Nat.reduceLeDiff, one, Value.cells, Int.reduceLE, Int.reduceLT, Int.reduceToNat, add_mk, reduceCtorEq, List.mem_range'_1, true_and, and_true, and_false, false_and, Nat.reduceLT, Nat.reduceLeDiff, tyF]
  exact hm0
theorem stats_nil30 (w : World) : Ret Tryz.prog 11 #[.pointer none] w fun v w' => v = .agg (ints (List.replicate 31 0)).toArray ∧ More w w' := by
  refine ret_of Tryz.func11 rfl (by kernel_rfl) (Nat.le_of_ble_eq_true (by kernel_rfl)) ?_
  have b1 := build_of (P := Tryz.prog) (T := 37) (parts := #[]) (ints (List.replicate 31 0)) (by kernel_rfl) zerStats (by kernel_rfl) w
  simp (config := {maxSteps := 1000000, implicitDefEqProofs := false}) only [↓zvN, zvU, ↓up_apply, ↓hv_apply, ↓upO_some, ↓upO_none, ↓ev_tmp, ↓ev_const, ↓ev_func, ↓ev_global, init, Nat.reduceEqDiff, Nat.reduceAdd, Nat.reduceMul, Nat.reduceSub, ↓reduceIte, Int.reduceEq, Int.reduceNe, Nat.reduceLeDiff, one, Value.cells, Int.reduceLE, Int.reduceLT, Int.reduceToNat, add_mk, reduceCtorEq, List.mem_range'_1, true_and, and_true, and_false, false_and, Nat.reduceLT, Nat.reduceLeDiff, tyF, zerStats, b1]
  have hm := more_alloc w (.cells (ints (List.replicate 31 0)).toArray 37)
  have hb := Blk.new w 37 (ints (List.replicate 31 0)).toArray
  obtain ⟨w1, hw1⟩ : ∃ w1, w.alloc (.cells (ints (List.replicate 31 0)).toArray 37) = w1 := ⟨_, rfl⟩
  rw [hw1] at hm hb ⊢
  clear hw1
  refine st_all hb rfl rfl (by simpa using ints_one (List.replicate 31 0)) fun w2 h1 h2 => ?_
  rw [s2_undef]
  rw [List.toList_toArray] at h2
  have l1 := h2.all_eq 31 rfl
  simp (config := {maxSteps := 1000000, implicitDefEqProofs := false}) only [↓zvN, zvU, ↓up_apply, ↓hv_apply, ↓upO_some, ↓upO_none, ↓ev_tmp, ↓ev_const, ↓ev_func, ↓ev_global, init, Nat.reduceEqDiff, Nat.reduceAdd, Nat.reduceMul, Nat.reduceSub, ↓reduceIte, Int.reduceEq, Int.reduceNe, Nat.reduceLeDiff, one, Value.cells, Int.reduceLE, Int.reduceLT, Int.reduceToNat, add_mk, reduceCtorEq, List.mem_range'_1, true_and, and_true, and_false, false_and, Nat.reduceLT, Nat.reduceLeDiff, tyF, l1]
  exact h1.below hm (Nat.le_refl _)
theorem now_nil (w : World) : Ret Tryz.prog 10 #[.pointer none] w fun v w' => v = .int .i64 0 ∧ More w w' := by
  refine ret_of Tryz.func10 rfl (by kernel_rfl) (Nat.le_of_ble_eq_true (by kernel_rfl)) ?_
  simp (config := {maxSteps := 1000000, implicitDefEqProofs := false}) only [↓zvN, zvU, ↓up_apply, ↓hv_apply, ↓upO_some, ↓upO_none, ↓ev_tmp, ↓ev_const, ↓ev_func, ↓ev_global, init, Nat.reduceEqDiff, Nat.reduceAdd, Nat.reduceMul, Nat.reduceSub, ↓reduceIte, Int.reduceEq, Int.reduceNe, Nat.reduceLeDiff, one, Value.cells, Int.reduceLE, Int.reduceLT, Int.reduceToNat, add_mk, reduceCtorEq, List.mem_range'_1, true_and, and_true, and_false, false_and, Nat.reduceLT, Nat.reduceLeDiff, tyF]
  exact More.refl _
theorem waits_nil (w : World) : Ret Tryz.prog 18 #[.pointer none] w fun v w' => v = .int .i64 0 ∧ More w w' := by
  refine ret_of Tryz.func18 rfl (by kernel_rfl) (Nat.le_of_ble_eq_true (by kernel_rfl)) ?_
  simp (config := {maxSteps := 1000000, implicitDefEqProofs := false}) only [↓zvN, zvU, ↓up_apply, ↓hv_apply, ↓upO_some, ↓upO_none, ↓ev_tmp, ↓ev_const, ↓ev_func, ↓ev_global, init, Nat.reduceEqDiff, Nat.reduceAdd, Nat.reduceMul, Nat.reduceSub, ↓reduceIte, Int.reduceEq, Int.reduceNe, Nat.reduceLeDiff, one, Value.cells, Int.reduceLE, Int.reduceLT, Int.reduceToNat, add_mk, reduceCtorEq, List.mem_range'_1, true_and, and_true, and_false, false_and, Nat.reduceLT, Nat.reduceLeDiff, tyF]
  exact More.refl _
theorem boxed_nil (w : World) : Ret Tryz.prog 19 #[.pointer none] w fun v w' => v = .slice none 0 0 ∧ More w w' := by
  refine ret_of Tryz.func19 rfl (by kernel_rfl) (Nat.le_of_ble_eq_true (by kernel_rfl)) ?_
  simp (config := {maxSteps := 1000000, implicitDefEqProofs := false}) only [↓zvN, zvU, ↓up_apply, ↓hv_apply, ↓upO_some, ↓upO_none, ↓ev_tmp, ↓ev_const, ↓ev_func, ↓ev_global, init, Nat.reduceEqDiff, Nat.reduceAdd, Nat.reduceMul, Nat.reduceSub, ↓reduceIte, Int.reduceEq, Int.reduceNe, Nat.reduceLeDiff, one, Value.cells, Int.reduceLE, Int.reduceLT, Int.reduceToNat, add_mk, reduceCtorEq, List.mem_range'_1, true_and, and_true, and_false, false_and, Nat.reduceLT, Nat.reduceLeDiff, tyF]
  exact More.refl _
theorem moving_nil (w : World) : Ret Tryz.prog 20 #[.pointer none] w fun v w' => v = .bool false ∧ More w w' := by
  refine ret_of Tryz.func20 rfl (by kernel_rfl) (Nat.le_of_ble_eq_true (by kernel_rfl)) ?_
  simp (config := {maxSteps := 1000000, implicitDefEqProofs := false}) only [↓zvN, zvU, ↓up_apply, ↓hv_apply, ↓upO_some, ↓upO_none, ↓ev_tmp, ↓ev_const, ↓ev_func, ↓ev_global, init, Nat.reduceEqDiff, Nat.reduceAdd, Nat.reduceMul, Nat.reduceSub, ↓reduceIte, Int.reduceEq, Int.reduceNe, Nat.reduceLeDiff, one, Value.cells, Int.reduceLE, Int.reduceLT, Int.reduceToNat, add_mk, reduceCtorEq, List.mem_range'_1, true_and, and_true, and_false, false_and, Nat.reduceLT, Nat.reduceLeDiff, tyF]
  exact More.refl _
theorem engine_nil (w : World) (kind : Int) (A : Option Addr) (n c : Nat) (d : List Value) (hd : d.length = 2) (t : Int) (k : List Value) (hk : k.length = 16) (p : List Value) (hp : p.length = 8) (cf : List Value) (hcf : cf.length = 20) :
    Ret Tryz.prog 4 #[.agg (.int .u8 kind :: .slice A n c :: (d ++ (.int .i64 t :: (k ++ (p ++ cf))))).toArray] w fun v w' => v = .bool true ∧ More w w' := by
  refine ret_of Tryz.func4 rfl (by kernel_rfl) (Nat.le_of_ble_eq_true (by kernel_rfl)) ?_
  obtain ⟨X, hX⟩ : ∃ X, (.int .u8 kind :: .slice A n c :: (d ++ (.int .i64 t :: (k ++ (p ++ cf)))) : List Value) = X := ⟨_, rfl⟩
  rw [hX]
  have hXl : X.length = 49 := by rw [← hX]; simp [hd, hk, hp, hcf]
  have hm1 := more_alloc w (.cells X.toArray 47)
  have hb1 := Blk.new w 47 X.toArray
  simp (config := {maxSteps := 1000000, implicitDefEqProofs := false}) only [↓zvN, zvU, ↓up_apply, ↓hv_apply, ↓upO_some, ↓upO_none, ↓ev_tmp, ↓ev_const, ↓ev_func, ↓ev_global, init, Nat.reduceEqDiff, Nat.reduceAdd, Nat.reduceMul, Nat.reduceSub, ↓reduceIte, Int.reduceEq, Int.reduceNe, Nat.reduceLeDiff, one, Value.cells, Int.reduceLE, Int.reduceLT, Int.reduceToNat, add_mk, reduceCtorEq, List.mem_range'_1, true_and, and_true, and_false, false_and, Nat.reduceLT, Nat.reduceLeDiff, tyF]
  obtain ⟨w1, hw1⟩ : ∃ w1, w.alloc (.cells X.toArray 47) = w1 := ⟨_, rfl⟩
  rw [hw1] at hm1 hb1 ⊢
  clear hw1
  rw [List.toList_toArray] at hb1
  obtain ⟨a, ha⟩ : ∃ a, w.heap.size = a := ⟨_, rfl⟩
  rw [ha] at hb1 ⊢
  have c1 : ∀ {w' : World}, Blk w' a 47 X → w'.cell? ⟨a, 1, none⟩ = some (.slice A n c) := fun h => by rw [h.cell, ← hX]; rfl
  have c4 : ∀ {w' : World}, Blk w' a 47 X → w'.cell? ⟨a, 4, none⟩ = some (.int .i64 t) := fun h => by
    rw [h.cell, ← hX, List.getElem?_cons_succ, List.getElem?_cons_succ, List.getElem?_append_right (by omega), hd]
    rfl
  have r2 : ∀ {w' : World}, Blk w' a 47 X → ∀ K : Value → Prop, ldRow 2 ⟨a, 2, none⟩ w' K = K (.agg d.toArray) := fun h K => by
    rw [h.row_eq 2 2 (by omega)]
    congr 2
    rw [← hX, List.drop_succ_cons, List.drop_succ_cons, List.drop_zero, List.take_append_of_le_length (by omega), List.take_of_length_le (by omega)]
  have d5 : X.drop 5 = k ++ (p ++ cf) := by
    rw [← hX, show (5 : Nat) = 4 + 1 from rfl, List.drop_succ_cons, show (4 : Nat) = 3 + 1 from rfl, List.drop_succ_cons, List.drop_append, hd, List.drop_eq_nil_of_le (by omega)]
    rfl
  have r5 : ∀ {w' : World}, Blk w' a 47 X → ∀ K : Value → Prop, ldRow 16 ⟨a, 5, none⟩ w' K = K (.agg k.toArray) := fun h K => by
    rw [h.row_eq 5 16 (by omega), d5, List.take_append_of_le_length (by omega), List.take_of_length_le (by omega)]
  have d21 : X.drop 21 = p ++ cf := by
    rw [show (21 : Nat) = 5 + 16 from rfl, ← List.drop_drop, d5, List.drop_append, hk, List.drop_eq_nil_of_le (by omega)]
    simp
  have d29 : X.drop 29 = cf := by
    rw [show (29 : Nat) = 21 + 8 from rfl, ← List.drop_drop, d21, List.drop_append, hp, List.drop_eq_nil_of_le (by omega)]
    simp
  have r21 : ∀ {w' : World}, Blk w' a 47 X → ∀ K : Value → Prop, ldRow 8 ⟨a, 21, none⟩ w' K = K (.agg p.toArray) := fun h K => by
    rw [h.row_eq 21 8 (by omega), d21, List.take_append_of_le_length (by omega), List.take_of_length_le (by omega)]
  have r29 : ∀ {w' : World}, Blk w' a 47 X → ∀ K : Value → Prop, ldRow 20 ⟨a, 29, none⟩ w' K = K (.agg cf.toArray) := fun h K => by
    rw [h.row_eq 29 20 (by omega), d29, List.take_of_length_le (by omega)]
  try simp (config := {maxSteps := 1000000, implicitDefEqProofs := false}) only [↓zvN, zvU, ↓up_apply, ↓hv_apply, ↓upO_some, ↓upO_none, ↓ev_tmp, ↓ev_const, ↓ev_func, ↓ev_global, init, Nat.reduceEqDiff, Nat.reduceAdd, Nat.reduceMul, Nat.reduceSub, ↓reduceIte, Int.reduceEq, Int.reduceNe, Nat.reduceLeDiff, one, Value.cells, Int.reduceLE, Int.reduceLT, Int.reduceToNat, add_mk, reduceCtorEq, List.mem_range'_1, true_and, and_true, and_false, false_and, Nat.reduceLT, Nat.reduceLeDiff, tyF]
  refine call_ok Tryz.call12 (poll_nil w1) ?_
  rintro _ w2 ⟨rfl, hm2⟩
  simp (config := {maxSteps := 1000000, implicitDefEqProofs := false}) only [↓zvN, zvU, ↓up_apply, ↓hv_apply, ↓upO_some, ↓upO_none, ↓ev_tmp, ↓ev_const, ↓ev_func, ↓ev_global, init, Nat.reduceEqDiff, Nat.reduceAdd, Nat.reduceMul, Nat.reduceSub, ↓reduceIte, Int.reduceEq, Int.reduceNe, Nat.reduceLeDiff, one, Value.cells, Int.reduceLE, Int.reduceLT, Int.reduceToNat, add_mk, reduceCtorEq, List.mem_range'_1, true_and, and_true, and_false, false_and, Nat.reduceLT, Nat.reduceLeDiff, tyF, zerDep]
  refine dep_var fun w3 hm3 hd3 => ?_
  rw [s2_undef]
  obtain ⟨yd, hyd⟩ : ∃ y, w2.heap.size = y := ⟨_, rfl⟩
  rw [hyd] at hd3 ⊢
  have hb3 := (hb1.more hm2).more hm3
  simp (config := {maxSteps := 1000000, implicitDefEqProofs := false}) only [↓zvN, zvU, ↓up_apply, ↓hv_apply, ↓upO_some, ↓upO_none, ↓ev_tmp, ↓ev_const, ↓ev_func, ↓ev_global, init, Nat.reduceEqDiff, Nat.reduceAdd, Nat.reduceMul, Nat.reduceSub, ↓reduceIte, Int.reduceEq, Int.reduceNe, Nat.reduceLeDiff, one, Value.cells, Int.reduceLE, Int.reduceLT, Int.reduceToNat, add_mk, reduceCtorEq, List.mem_range'_1, true_and, and_true, and_false, false_and, Nat.reduceLT, Nat.reduceLeDiff, tyF, c1 hb3, r2 hb3]
  refine call_ok Tryz.call13 (frame_nil w3 A n c d) ?_
  rintro _ w4 ⟨rfl, hm4⟩
  simp (config := {maxSteps := 1000000, implicitDefEqProofs := false}) only [↓zvN, zvU, ↓up_apply, ↓hv_apply, ↓upO_some, ↓upO_none, ↓ev_tmp, ↓ev_const, ↓ev_func, ↓ev_global, init, Nat.reduceEqDiff, Nat.reduceAdd, Nat.reduceMul, Nat.reduceSub, ↓reduceIte, Int.reduceEq, Int.reduceNe, Nat.reduceLeDiff, one, Value.cells, Int.reduceLE, Int.reduceLT, Int.reduceToNat, add_mk, reduceCtorEq, List.mem_range'_1, true_and, and_true, and_false, false_and, Nat.reduceLT, Nat.reduceLeDiff, tyF, zerVer]
  refine ver_var fun w5 hm5 hv5 => ?_
  rw [s2_undef]
  obtain ⟨yv, hyv⟩ : ∃ y, w4.heap.size = y := ⟨_, rfl⟩
  rw [hyv] at hv5 ⊢
  have hm35 := hm4.trans hm5
  have hb5 := hb3.more hm35
  have hd5 := hd3.more hm35
  simp (config := {maxSteps := 1000000, implicitDefEqProofs := false}) only [↓zvN, zvU, ↓up_apply, ↓hv_apply, ↓upO_some, ↓upO_none, ↓ev_tmp, ↓ev_const, ↓ev_func, ↓ev_global, init, Nat.reduceEqDiff, Nat.reduceAdd, Nat.reduceMul, Nat.reduceSub, ↓reduceIte, Int.reduceEq, Int.reduceNe, Nat.reduceLeDiff, one, Value.cells, Int.reduceLE, Int.reduceLT, Int.reduceToNat, add_mk, reduceCtorEq, List.mem_range'_1, true_and, and_true, and_false, false_and, Nat.reduceLT, Nat.reduceLeDiff, tyF]
  simp only [List.append_eq, List.cons_append, List.nil_append]
  simp (config := {maxSteps := 1000000, implicitDefEqProofs := false}) only [↓zvN, zvU, ↓up_apply, ↓hv_apply, ↓upO_some, ↓upO_none, ↓ev_tmp, ↓ev_const, ↓ev_func, ↓ev_global, init, Nat.reduceEqDiff, Nat.reduceAdd, Nat.reduceMul, Nat.reduceSub, ↓reduceIte, Int.reduceEq, Int.reduceNe, Nat.reduceLeDiff, one, Value.cells, Int.reduceLE, Int.reduceLT, Int.reduceToNat, add_mk, reduceCtorEq, List.mem_range'_1, true_and, and_true, and_false, false_and, Nat.reduceLT, Nat.reduceLeDiff, tyF]
  refine call_ok Tryz.call6 (awake30 _) ?_
  rintro _ w6 ⟨rfl, hm6⟩
  simp (config := {maxSteps := 1000000, implicitDefEqProofs := false}) only [↓zvN, zvU, ↓up_apply, ↓hv_apply, ↓upO_some, ↓upO_none, ↓ev_tmp, ↓ev_const, ↓ev_func, ↓ev_global, init, Nat.reduceEqDiff, Nat.reduceAdd, Nat.reduceMul, Nat.reduceSub, ↓reduceIte, Int.reduceEq, Int.reduceNe, Nat.reduceLeDiff, one, Value.cells, Int.reduceLE, Int.reduceLT, Int.reduceToNat, add_mk, reduceCtorEq, List.mem_range'_1, true_and, and_true, and_false, false_and, Nat.reduceLT, Nat.reduceLeDiff, tyF, c4 (hb5.more hm6)]
  refine call_ok Tryz.call9 (clock_nil w6 t) ?_
  rintro _ w7 ⟨rfl, hm7⟩
  have hm57 := hm6.trans hm7
  have v0 : ∀ {w' : World}, More w5 w' → w'.cell? ⟨yv, 0, none⟩ = some (.int .i64 0) := fun h => by rw [(hv5.more h).cell]; rfl
  have dl : ∀ {w' : World}, More w5 w' → w'.cell? ⟨yd, 2, none⟩ = some (.int .i64 0) := fun h => by rw [(hd5.more h).cell]; rfl
  simp (config := {maxSteps := 1000000, implicitDefEqProofs := false}) only [↓zvN, zvU, ↓up_apply, ↓hv_apply, ↓upO_some, ↓upO_none, ↓ev_tmp, ↓ev_const, ↓ev_func, ↓ev_global, init, Nat.reduceEqDiff, Nat.reduceAdd, Nat.reduceMul, Nat.reduceSub, ↓reduceIte, Int.reduceEq, Int.reduceNe, Nat.reduceLeDiff, one, Value.cells, Int.reduceLE, Int.reduceLT, Int.reduceToNat, add_mk, reduceCtorEq, List.mem_range'_1, true_and, and_true, and_false, false_and, Nat.reduceLT, Nat.reduceLeDiff, tyF, v0 hm57, dl hm57, r5 (hb5.more hm57)]
  refine call_ok Tryz.call14 (rekey_nil w7 k) ?_
  rintro _ w8 ⟨rfl, hm8⟩
  have hm58 := hm57.trans hm8
  simp (config := {maxSteps := 1000000, implicitDefEqProofs := false}) only [↓zvN, zvU, ↓up_apply, ↓hv_apply, ↓upO_some, ↓upO_none, ↓ev_tmp, ↓ev_const, ↓ev_func, ↓ev_global, init, Nat.reduceEqDiff, Nat.reduceAdd, Nat.reduceMul, Nat.reduceSub, ↓reduceIte, Int.reduceEq, Int.reduceNe, Nat.reduceLeDiff, one, Value.cells, Int.reduceLE, Int.reduceLT, Int.reduceToNat, add_mk, reduceCtorEq, List.mem_range'_1, true_and, and_true, and_false, false_and, Nat.reduceLT, Nat.reduceLeDiff, tyF, r21 (hb5.more hm58)]
  refine call_ok Tryz.call15 (unbox_nil w8 p) ?_
  rintro _ w9 ⟨rfl, hm9⟩
  have hm59 := hm58.trans hm9
  simp (config := {maxSteps := 1000000, implicitDefEqProofs := false}) only [↓zvN, zvU, ↓up_apply, ↓hv_apply, ↓upO_some, ↓upO_none, ↓ev_tmp, ↓ev_const, ↓ev_func, ↓ev_global, init, Nat.reduceEqDiff, Nat.reduceAdd, Nat.reduceMul, Nat.reduceSub, ↓reduceIte, Int.reduceEq, Int.reduceNe, Nat.reduceLeDiff, one, Value.cells, Int.reduceLE, Int.reduceLT, Int.reduceToNat, add_mk, reduceCtorEq, List.mem_range'_1, true_and, and_true, and_false, false_and, Nat.reduceLT, Nat.reduceLeDiff, tyF]
  refine call_ok Tryz.call16 (flush_nil w9) ?_
  rintro _ w10 ⟨rfl, hm10⟩
  have hm510 := hm59.trans hm10
  simp (config := {maxSteps := 1000000, implicitDefEqProofs := false}) only [↓zvN, zvU, ↓up_apply, ↓hv_apply, ↓upO_some, ↓upO_none, ↓ev_tmp, ↓ev_const, ↓ev_func, ↓ev_global, init, Nat.reduceEqDiff, Nat.reduceAdd, Nat.reduceMul, Nat.reduceSub, ↓reduceIte, Int.reduceEq, Int.reduceNe, Nat.reduceLeDiff, one, Value.cells, Int.reduceLE, Int.reduceLT, Int.reduceToNat, add_mk, reduceCtorEq, List.mem_range'_1, true_and, and_true, and_false, false_and, Nat.reduceLT, Nat.reduceLeDiff, tyF, r29 (hb5.more hm510)]
  refine call_ok Tryz.call17 (tune_nil w10 cf) ?_
  rintro _ w11 ⟨rfl, hm11⟩
  simp (config := {maxSteps := 1000000, implicitDefEqProofs := false}) only [↓zvN, zvU, ↓up_apply, ↓hv_apply, ↓upO_some, ↓upO_none, ↓ev_tmp, ↓ev_const, ↓ev_func, ↓ev_global, init, Nat.reduceEqDiff, Nat.reduceAdd, Nat.reduceMul, Nat.reduceSub, ↓reduceIte, Int.reduceEq, Int.reduceNe, Nat.reduceLeDiff, one, Value.cells, Int.reduceLE, Int.reduceLT, Int.reduceToNat, add_mk, reduceCtorEq, List.mem_range'_1, true_and, and_true, and_false, false_and, Nat.reduceLT, Nat.reduceLeDiff, tyF]
  refine call_ok Tryz.call11 (stats_nil30 w11) ?_
  rintro _ w12 ⟨rfl, hm12⟩
  have b1 := build_of (P := Tryz.prog) (T := 37) (parts := #[]) (ints (List.replicate 31 0)) (by kernel_rfl) zerStats (by kernel_rfl) w12
  have se := fun ox oy => stat_eq (a := List.replicate 31 0) (b := List.replicate 31 0) rfl rfl w12 ox oy
  simp (config := {maxSteps := 1000000, implicitDefEqProofs := false}) only [↓zvN, zvU, ↓up_apply, ↓hv_apply, ↓upO_some, ↓upO_none, ↓ev_tmp, ↓ev_const, ↓ev_func, ↓ev_global, init, Nat.reduceEqDiff, Nat.reduceAdd, Nat.reduceMul, Nat.reduceSub, ↓reduceIte, Int.reduceEq, Int.reduceNe, Nat.reduceLeDiff, one, Value.cells, Int.reduceLE, Int.reduceLT, Int.reduceToNat, add_mk, reduceCtorEq, List.mem_range'_1, true_and, and_true, and_false, false_and, Nat.reduceLT, Nat.reduceLeDiff, tyF]
  rw [b1]
  simp (config := {maxSteps := 1000000, implicitDefEqProofs := false}) only [↓zvN, zvU, ↓up_apply, ↓hv_apply, ↓upO_some, ↓upO_none, ↓ev_tmp, ↓ev_const, ↓ev_func, ↓ev_global, init, Nat.reduceEqDiff, Nat.reduceAdd, Nat.reduceMul, Nat.reduceSub, ↓reduceIte, Int.reduceEq, Int.reduceNe, Nat.reduceLeDiff, one, Value.cells, Int.reduceLE, Int.reduceLT, Int.reduceToNat, add_mk, reduceCtorEq, List.mem_range'_1, true_and, and_true, and_false, false_and, Nat.reduceLT, Nat.reduceLeDiff, tyF, se]
  refine call_ok Tryz.call10 (now_nil w12) ?_
  rintro _ w13 ⟨rfl, hm13⟩
  simp (config := {maxSteps := 1000000, implicitDefEqProofs := false}) only [↓zvN, zvU, ↓up_apply, ↓hv_apply, ↓upO_some, ↓upO_none, ↓ev_tmp, ↓ev_const, ↓ev_func, ↓ev_global, init, Nat.reduceEqDiff, Nat.reduceAdd, Nat.reduceMul, Nat.reduceSub, ↓reduceIte, Int.reduceEq, Int.reduceNe, Nat.reduceLeDiff, one, Value.cells, Int.reduceLE, Int.reduceLT, Int.reduceToNat, add_mk, reduceCtorEq, List.mem_range'_1, true_and, and_true, and_false, false_and, Nat.reduceLT, Nat.reduceLeDiff, tyF]
  refine call_ok Tryz.call18 (waits_nil w13) ?_
  rintro _ w14 ⟨rfl, hm14⟩
  simp (config := {maxSteps := 1000000, implicitDefEqProofs := false}) only [↓zvN, zvU, ↓up_apply, ↓hv_apply, ↓upO_some, ↓upO_none, ↓ev_tmp, ↓ev_const, ↓ev_func, ↓ev_global, init, Nat.reduceEqDiff, Nat.reduceAdd, Nat.reduceMul, Nat.reduceSub, ↓reduceIte, Int.reduceEq, Int.reduceNe, Nat.reduceLeDiff, one, Value.cells, Int.reduceLE, Int.reduceLT, Int.reduceToNat, add_mk, reduceCtorEq, List.mem_range'_1, true_and, and_true, and_false, false_and, Nat.reduceLT, Nat.reduceLeDiff, tyF]
  refine call_ok Tryz.call19 (boxed_nil w14) ?_
  rintro _ w15 ⟨rfl, hm15⟩
  simp (config := {maxSteps := 1000000, implicitDefEqProofs := false}) only [↓zvN, zvU, ↓up_apply, ↓hv_apply, ↓upO_some, ↓upO_none, ↓ev_tmp, ↓ev_const, ↓ev_func, ↓ev_global, init, Nat.reduceEqDiff, Nat.reduceAdd, Nat.reduceMul, Nat.reduceSub, ↓reduceIte, Int.reduceEq, Int.reduceNe, Nat.reduceLeDiff, one, Value.cells, Int.reduceLE, Int.reduceLT, Int.reduceToNat, add_mk, reduceCtorEq, List.mem_range'_1, true_and, and_true, and_false, false_and, Nat.reduceLT, Nat.reduceLeDiff, tyF]
  refine call_ok Tryz.call20 (moving_nil w15) ?_
  rintro _ w16 ⟨rfl, hm16⟩
  simp (config := {maxSteps := 1000000, implicitDefEqProofs := false}) only [↓zvN, zvU, ↓up_apply, ↓hv_apply, ↓upO_some, ↓upO_none, ↓ev_tmp, ↓ev_const, ↓ev_func, ↓ev_global, init, Nat.reduceEqDiff, Nat.reduceAdd, Nat.reduceMul, Nat.reduceSub, ↓reduceIte, Int.reduceEq, Int.reduceNe, Nat.reduceLeDiff, one, Value.cells, Int.reduceLE, Int.reduceLT, Int.reduceToNat, add_mk, reduceCtorEq, List.mem_range'_1, true_and, and_true, and_false, false_and, Nat.reduceLT, Nat.reduceLeDiff, tyF]
  exact ((hm1.trans hm2).trans hm3).trans (((((hm35.trans hm510).trans hm11).trans hm12).trans hm13).trans ((hm14.trans hm15).trans hm16))
theorem act30_in {w : World} {m : Nat} {cs : List Value} (h : Lays Tryz.prog w m 47 cs) :
    ∃ (kind : Int) (A : Option Addr) (n c : Nat) (d : List Value) (t : Int) (k p cf : List Value), cs = .int .u8 kind :: .slice A n c :: (d ++ (.int .i64 t :: (k ++ (p ++ cf)))) ∧ d.length = 2 ∧ k.length = 16 ∧ p.length = 8 ∧ cf.length = 20 := by
  have hl : cs.length = 49 := by
    have := (h.field Tryz.underlying47).1
    rwa [cells47] at this
  obtain ⟨_, f0⟩ := h.fieldAt Tryz.underlying47 0 5 0 rfl cells5
  obtain ⟨_, f1⟩ := h.fieldAt Tryz.underlying47 1 40 1 rfl cells40
  obtain ⟨_, f3⟩ := h.fieldAt Tryz.underlying47 3 2 4 rfl cells2
  obtain ⟨x, e0, _⟩ := f0.int Tryz.underlying5
  obtain ⟨t, e3, _⟩ := f3.int Tryz.underlying2
  obtain ⟨A, n, c, e1⟩ : ∃ A n c, (cs.drop 1).take 1 = [.slice A n c] := by
    rcases f1.slice Tryz.underlying40 with e | ⟨a, n, c, e, _⟩
    · exact ⟨none, 0, 0, e⟩
    · exact ⟨some a, n, c, e⟩
  refine ⟨x, A, n, c, (cs.drop 2).take 2, t, (cs.drop 5).take 16, (cs.drop 21).take 8, cs.drop 29, ?_, by simp; omega, by simp; omega, by simp; omega, by simp; omega⟩
  have e : cs = [Value.int .u8 x] ++ ([.slice A n c] ++ ((cs.drop 2).take 2 ++ ([.int .i64 t] ++ ((cs.drop 5).take 16 ++ ((cs.drop 21).take 8 ++ cs.drop 29))))) := by
    rw [← e0, ← e1, ← e3]
    conv => lhs; rw [← List.drop_zero (l := cs), cut_at _ 0 1, cut_at _ (0 + 1) 1, cut_at _ (0 + 1 + 1) 2, cut_at _ (0 + 1 + 1 + 2) 1, cut_at _ (0 + 1 + 1 + 2 + 1) 16, cut_at _ (0 + 1 + 1 + 2 + 1 + 16) 8]
  exact e
end Go.Proofs.YtahcaplhdgphcaaGreat
