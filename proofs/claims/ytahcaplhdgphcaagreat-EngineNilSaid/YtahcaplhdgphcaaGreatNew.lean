/-
  What is made new: levels of bins, a window, a box, tokens.
-/
import Derived.Test.YtahcaplhdgphcaaGreatCopy
import Derived.Test.YtahcaplhdgphcaaGreatRw
import Derived.Test.YtahcaplhdgphcaaGreatFlow
namespace Go.Proofs.YtahcaplhdgphcaaGreat
open Go Go.RowKit Go.Proofs.RV
set_option linter.unusedSimpArgs false
set_option linter.unusedVariables false
set_option maxRecDepth 10000
set_option maxHeartbeats 4000000

def tunedOk (target up down : Int) : Prop := 0 ≤ target ∧ target ≤ 1073741824 ∧ 0 ≤ up ∧ up ≤ 65536 ∧ 0 ≤ down ∧ down ≤ 65536
instance (target up down : Int) : Decidable (tunedOk target up down) := by unfold tunedOk; infer_instance
theorem blue_tuned (w : World) (t u d : Int) : Ret Tryz.prog 141 #[.int .i64 t, .int .i64 u, .int .i64 d] w fun v w' => v = .bool (decide (tunedOk t u d)) ∧ w' = w := by
  refine ret_of Tryz.func141 rfl (by kernel_rfl) (Nat.le_of_ble_eq_true (by kernel_rfl)) ?_
  by_cases h : tunedOk t u d
  · have ⟨h1, h2, h3, h4, h5, h6⟩ := h
    rw [decide_eq_true h]
    simp (config := {maxSteps := 1000000, implicitDefEqProofs := false}) only [↓zvD, zvU, ↓up_apply, ↓hv_apply, ↓upO_some, ↓upO_none, ↓ev_tmp, ↓ev_const, ↓ev_func, ↓ev_global, init, Nat.reduceEqDiff, Nat.reduceAdd, Nat.reduceMul, Nat.reduceSub, ↓reduceIte, Int.reduceEq, Int.reduceNe, Nat.reduceLeDiff, one, Value.cells, Int.reduceLE, Int.reduceLT, Int.reduceToNat, add_mk, reduceCtorEq, List.mem_range'_1, true_and, and_true, and_false, false_and, Nat.reduceLT, Nat.reduceLeDiff, tyF, h1, h2, h3, h4, h5, h6]
  · rw [decide_eq_false h]
    unfold tunedOk at h
    by_cases h1 : 0 ≤ t
    · by_cases h2 : t ≤ 1073741824
      · by_cases h3 : 0 ≤ u
        · by_cases h4 : u ≤ 65536
          · by_cases h5 : 0 ≤ d
            · have h6 : ¬ d ≤ 65536 := fun h6 => h ⟨h1, h2, h3, h4, h5, h6⟩
              simp (config := {maxSteps := 1000000, implicitDefEqProofs := false}) only [↓zvD, zvU, ↓up_apply, ↓hv_apply, ↓upO_some, ↓upO_none, ↓ev_tmp, ↓ev_const, ↓ev_func, ↓ev_global, init, Nat.reduceEqDiff, Nat.reduceAdd, Nat.reduceMul, Nat.reduceSub, ↓reduceIte, Int.reduceEq, Int.reduceNe, Nat.reduceLeDiff, one, Value.cells, Int.reduceLE, Int.reduceLT, Int.reduceToNat, add_mk, reduceCtorEq, List.mem_range'_1, true_and, and_true, and_false, false_and, Nat.reduceLT, Nat.reduceLeDiff, tyF, h1, h2, h3, h4, h5, h6]
            · simp (config := {maxSteps := 1000000, implicitDefEqProofs := false}) only [↓zvD, zvU, ↓up_apply, ↓hv_apply, ↓upO_some, ↓upO_none, ↓ev_tmp, ↓ev_const, ↓ev_func, ↓ev_global, init, Nat.reduceEqDiff, Nat.reduceAdd, Nat.reduceMul, Nat.reduceSub, ↓reduceIte, Int.reduceEq, Int.reduceNe, Nat.reduceLeDiff, one, Value.cells, Int.reduceLE, Int.reduceLT, Int.reduceToNat, add_mk, reduceCtorEq, List.mem_range'_1, true_and, and_true, and_false, false_and, Nat.reduceLT, Nat.reduceLeDiff, tyF, h1, h2, h3, h4, h5]
          · simp (config := {maxSteps := 1000000, implicitDefEqProofs := false}) only [↓zvD, zvU, ↓up_apply, ↓hv_apply, ↓upO_some, ↓upO_none, ↓ev_tmp, ↓ev_const, ↓ev_func, ↓ev_global, init, Nat.reduceEqDiff, Nat.reduceAdd, Nat.reduceMul, Nat.reduceSub, ↓reduceIte, Int.reduceEq, Int.reduceNe, Nat.reduceLeDiff, one, Value.cells, Int.reduceLE, Int.reduceLT, Int.reduceToNat, add_mk, reduceCtorEq, List.mem_range'_1, true_and, and_true, and_false, false_and, Nat.reduceLT, Nat.reduceLeDiff, tyF, h1, h2, h3, h4]
        · simp (config := {maxSteps := 1000000, implicitDefEqProofs := false}) only [↓zvD, zvU, ↓up_apply, ↓hv_apply, ↓upO_some, ↓upO_none, ↓ev_tmp, ↓ev_const, ↓ev_func, ↓ev_global, init, Nat.reduceEqDiff, Nat.reduceAdd, Nat.reduceMul, Nat.reduceSub, ↓reduceIte, Int.reduceEq, Int.reduceNe, Nat.reduceLeDiff, one, Value.cells, Int.reduceLE, Int.reduceLT, Int.reduceToNat, add_mk, reduceCtorEq, List.mem_range'_1, true_and, and_true, and_false, false_and, Nat.reduceLT, Nat.reduceLeDiff, tyF, h1, h2, h3]
      · simp (config := {maxSteps := 1000000, implicitDefEqProofs := false}) only [↓zvD, zvU, ↓up_apply, ↓hv_apply, ↓upO_some, ↓upO_none, ↓ev_tmp, ↓ev_const, ↓ev_func, ↓ev_global, init, Nat.reduceEqDiff, Nat.reduceAdd, Nat.reduceMul, Nat.reduceSub, ↓reduceIte, Int.reduceEq, Int.reduceNe, Nat.reduceLeDiff, one, Value.cells, Int.reduceLE, Int.reduceLT, Int.reduceToNat, add_mk, reduceCtorEq, List.mem_range'_1, true_and, and_true, and_false, false_and, Nat.reduceLT, Nat.reduceLeDiff, tyF, h1, h2]
    · simp (config := {maxSteps := 1000000, implicitDefEqProofs := false}) only [↓zvD, zvU, ↓up_apply, ↓hv_apply, ↓upO_some, ↓upO_none, ↓ev_tmp, ↓ev_const, ↓ev_func, ↓ev_global, init, Nat.reduceEqDiff, Nat.reduceAdd, Nat.reduceMul, Nat.reduceSub, ↓reduceIte, Int.reduceEq, Int.reduceNe, Nat.reduceLeDiff, one, Value.cells, Int.reduceLE, Int.reduceLT, Int.reduceToNat, add_mk, reduceCtorEq, List.mem_range'_1, true_and, and_true, and_false, false_and, Nat.reduceLT, Nat.reduceLeDiff, tyF, h1]
def blueOk (levels bins target hold up down : Int) : Prop := 1 ≤ levels ∧ levels ≤ 4 ∧ 1 ≤ bins ∧ bins ≤ 64 ∧ 0 ≤ hold ∧ hold ≤ 4611686018427387903 ∧ tunedOk target up down
/-- a bin: bytes, when it was changed, its probability -/
structure BinM where
  bytes : Int
  changed : Int
  p : Int
def BinM.cells (b : BinM) : List Value := [.int .i64 b.bytes, .int .i64 b.changed, .int .i64 b.p]
theorem BinM.cells_len (b : BinM) : b.cells.length = 3 := rfl
theorem binE : ElemT Tryz.prog 268 (.agg (BinM.mk 0 0 0).cells.toArray) 3 24 := by unfold ElemT; kernel_rfl
def BlueNewR (levels bins target hold up down : Int) (w : World) (v : Value) (w' : World) : Prop := More w w' ∧
    (blueOk levels bins target hold up down → ∃ (b p n : Nat), v = .tuple #[.pointer (some ⟨p, 0, none⟩), .int .i64 0] ∧ (n : Int) = levels * bins ∧ w.heap.size ≤ b ∧ b < p ∧ Blk w' b 268 ((List.replicate n (BinM.mk 0 0 0)).flatMap BinM.cells) ∧
      Blk w' p 240 [.slice (some ⟨b, 0, none⟩) n n, .int .i64 levels, .int .i64 bins, .int .i64 target, .int .i64 hold, .int .i64 up, .int .i64 down]) ∧
    (¬ blueOk levels bins target hold up down → v = .tuple #[.pointer none, .int .i64 1])
theorem blue_new (w : World) (levels bins target hold up down : Int) : Ret Tryz.prog 95 #[.int .i64 levels, .int .i64 bins, .int .i64 target, .int .i64 hold, .int .i64 up, .int .i64 down] w (BlueNewR levels bins target hold up down w) := by
  refine ret_of Tryz.func95 rfl (by kernel_rfl) (Nat.le_of_ble_eq_true (by kernel_rfl)) ?_
  have no : (levels < 1 ∨ 4 < levels ∨ bins < 1 ∨ 64 < bins ∨ hold < 0 ∨ 4611686018427387903 < hold ∨ ¬ tunedOk target up down) → ¬ blueOk levels bins target hold up down := by
    intro h ⟨h1, h2, h3, h4, h5, h6, h7⟩
    rcases h with h | h | h | h | h | h | h
    · omega
    · omega
    · omega
    · omega
    · omega
    · omega
    · exact h h7
  simp (config := {maxSteps := 1000000, implicitDefEqProofs := false}) only [↓zvD, zvU, ↓up_apply, ↓hv_apply, ↓upO_some, ↓upO_none, ↓ev_tmp, ↓ev_const, ↓ev_func, ↓ev_global, init, Nat.reduceEqDiff, Nat.reduceAdd, Nat.reduceMul, Nat.reduceSub, ↓reduceIte, Int.reduceEq, Int.reduceNe, Nat.reduceLeDiff, one, Value.cells, Int.reduceLE, Int.reduceLT, Int.reduceToNat, add_mk, reduceCtorEq, List.mem_range'_1, true_and, and_true, and_false, false_and, Nat.reduceLT, Nat.reduceLeDiff, tyF]
  refine ⟨fun h => ⟨More.refl _, fun ho => absurd ho (no (.inl h)), fun _ => rfl⟩, fun h1 => ?_⟩
  refine ⟨fun h => ⟨More.refl _, fun ho => absurd ho (no (.inr (.inl h))), fun _ => rfl⟩, fun h2 => ?_⟩
  refine ⟨fun h => ⟨More.refl _, fun ho => absurd ho (no (.inr (.inr (.inl h)))), fun _ => rfl⟩, fun h3 => ?_⟩
  refine ⟨fun h => ⟨More.refl _, fun ho => absurd ho (no (.inr (.inr (.inr (.inl h))))), fun _ => rfl⟩, fun h4 => ?_⟩
  refine ⟨fun h => ⟨More.refl _, fun ho => absurd ho (no (.inr (.inr (.inr (.inr (.inl h)))))), fun _ => rfl⟩, fun h5 => ?_⟩
  refine ⟨fun h => ⟨More.refl _, fun ho => absurd ho (no (.inr (.inr (.inr (.inr (.inr (.inl h))))))), fun _ => rfl⟩, fun h6 => ?_⟩
  refine call_ok Tryz.call141 (blue_tuned w target up down) ?_
  rintro _ w1 ⟨rfl, rfl⟩
  by_cases h7 : tunedOk target up down
  · rw [decide_eq_true h7]
    obtain ⟨L, rfl⟩ := Int.eq_ofNat_of_zero_le (show 0 ≤ levels by omega)
    obtain ⟨B, rfl⟩ := Int.eq_ofNat_of_zero_le (show 0 ≤ bins by omega)
    have hLB : L * B ≤ 4 * 64 := Nat.mul_le_mul (by omega) (by omega)
    have em : IntKind.i64.wrap ((L : Int) * (B : Int)) = ((L * B : Nat) : Int) := by rw [show (L : Int) * (B : Int) = ((L * B : Nat) : Int) by simp]; exact w64 (by omega) (by omega)
    simp (config := {maxSteps := 1000000, implicitDefEqProofs := false}) only [↓zvD, zvU, ↓up_apply, ↓hv_apply, ↓upO_some, ↓upO_none, ↓ev_tmp, ↓ev_const, ↓ev_func, ↓ev_global, init, Nat.reduceEqDiff, Nat.reduceAdd, Nat.reduceMul, Nat.reduceSub, ↓reduceIte, Int.reduceEq, Int.reduceNe, Nat.reduceLeDiff, one, Value.cells, Int.reduceLE, Int.reduceLT, Int.reduceToNat, add_mk, reduceCtorEq, List.mem_range'_1, true_and, and_true, and_false, false_and, Nat.reduceLT, Nat.reduceLeDiff, tyF, em]
    refine mk_slice Tryz.underlying238 binE (by omega) (by simp only [maxLen]; omega) ?_
    have hm2 := more_alloc w1 (.cells (madeCells (BinM.mk 0 0 0).cells.toArray (L * B * 3)) 268)
    have hb2 := Blk.new w1 268 (madeCells (BinM.mk 0 0 0).cells.toArray (L * B * 3))
    have s2 := size_alloc w1 (.cells (madeCells (BinM.mk 0 0 0).cells.toArray (L * B * 3)) 268)
    rw [made_row (BinM.mk 0 0 0) (BinM.cells_len _) (by omega) _ rfl] at hb2
    rw [show (Value.agg (BinM.mk 0 0 0).cells.toArray).cells = (BinM.mk 0 0 0).cells.toArray from rfl]
    generalize w1.alloc (.cells (madeCells (BinM.mk 0 0 0).cells.toArray (L * B * 3)) 268) = w2 at hm2 hb2 s2 ⊢
    simp (config := {maxSteps := 1000000, implicitDefEqProofs := false}) only [↓zvD, zvU, ↓up_apply, ↓hv_apply, ↓upO_some, ↓upO_none, ↓ev_tmp, ↓ev_const, ↓ev_func, ↓ev_global, init, Nat.reduceEqDiff, Nat.reduceAdd, Nat.reduceMul, Nat.reduceSub, ↓reduceIte, Int.reduceEq, Int.reduceNe, Nat.reduceLeDiff, one, Value.cells, Int.reduceLE, Int.reduceLT, Int.reduceToNat, add_mk, reduceCtorEq, List.mem_range'_1, true_and, and_true, and_false, false_and, Nat.reduceLT, Nat.reduceLeDiff, tyF]
    rw [build_of [.slice (some ⟨w1.heap.size, 0, none⟩) (L * B) (L * B), .int .i64 L, .int .i64 B, .int .i64 target, .int .i64 hold, .int .i64 up, .int .i64 down] (by kernel_rfl) zer240 (by kernel_rfl) w2]
    simp (config := {maxSteps := 1000000, implicitDefEqProofs := false}) only [↓zvD, zvU, ↓up_apply, ↓hv_apply, ↓upO_some, ↓upO_none, ↓ev_tmp, ↓ev_const, ↓ev_func, ↓ev_global, init, Nat.reduceEqDiff, Nat.reduceAdd, Nat.reduceMul, Nat.reduceSub, ↓reduceIte, Int.reduceEq, Int.reduceNe, Nat.reduceLeDiff, one, Value.cells, Int.reduceLE, Int.reduceLT, Int.reduceToNat, add_mk, reduceCtorEq, List.mem_range'_1, true_and, and_true, and_false, false_and, Nat.reduceLT, Nat.reduceLeDiff, tyF]
    have hm3 := more_alloc w2 (.cells #[.slice (some ⟨w1.heap.size, 0, none⟩) (L * B) (L * B), .int .i64 L, .int .i64 B, .int .i64 target, .int .i64 hold, .int .i64 up, .int .i64 down] 240)
    refine ⟨hm2.trans hm3, fun _ => ⟨w1.heap.size, w2.heap.size, L * B, rfl, by simp, Nat.le_refl _, by omega, hb2.more hm3, Blk.new _ _ _⟩, fun hn => absurd ⟨h1, h2, h3, h4, h5, h6, h7⟩ hn⟩
  · rw [decide_eq_false h7]
    simp (config := {maxSteps := 1000000, implicitDefEqProofs := false}) only [↓zvD, zvU, ↓up_apply, ↓hv_apply, ↓upO_some, ↓upO_none, ↓ev_tmp, ↓ev_const, ↓ev_func, ↓ev_global, init, Nat.reduceEqDiff, Nat.reduceAdd, Nat.reduceMul, Nat.reduceSub, ↓reduceIte, Int.reduceEq, Int.reduceNe, Nat.reduceLeDiff, one, Value.cells, Int.reduceLE, Int.reduceLT, Int.reduceToNat, add_mk, reduceCtorEq, List.mem_range'_1, true_and, and_true, and_false, false_and, Nat.reduceLT, Nat.reduceLeDiff, tyF]
    exact ⟨More.refl _, fun ho => absurd ho (no (.inr (.inr (.inr (.inr (.inr (.inr h7))))))), fun _ => rfl⟩
def mayOk (n : Int) : Prop := 1 ≤ n ∧ n ≤ 4611686018427387903
instance (n : Int) : Decidable (mayOk n) := by unfold mayOk; infer_instance
theorem window_may (w : World) (n : Int) : Ret Tryz.prog 142 #[.int .i64 n] w fun v w' => v = .bool (decide (mayOk n)) ∧ w' = w := by
  refine ret_of Tryz.func142 rfl (by kernel_rfl) (Nat.le_of_ble_eq_true (by kernel_rfl)) ?_
  by_cases h1 : 1 ≤ n
  · by_cases h2 : n ≤ 4611686018427387903
    · rw [decide_eq_true (show mayOk n from ⟨h1, h2⟩)]
      simp (config := {maxSteps := 1000000, implicitDefEqProofs := false}) only [↓zvD, zvU, ↓up_apply, ↓hv_apply, ↓upO_some, ↓upO_none, ↓ev_tmp, ↓ev_const, ↓ev_func, ↓ev_global, init, Nat.reduceEqDiff, Nat.reduceAdd, Nat.reduceMul, Nat.reduceSub, ↓reduceIte, Int.reduceEq, Int.reduceNe, Nat.reduceLeDiff, one, Value.cells, Int.reduceLE, Int.reduceLT, Int.reduceToNat, add_mk, reduceCtorEq, List.mem_range'_1, true_and, and_true, and_false, false_and, Nat.reduceLT, Nat.reduceLeDiff, tyF, h1, h2]
    · rw [decide_eq_false (fun h => h2 h.2)]
      simp (config := {maxSteps := 1000000, implicitDefEqProofs := false}) only [↓zvD, zvU, ↓up_apply, ↓hv_apply, ↓upO_some, ↓upO_none, ↓ev_tmp, ↓ev_const, ↓ev_func, ↓ev_global, init, Nat.reduceEqDiff, Nat.reduceAdd, Nat.reduceMul, Nat.reduceSub, ↓reduceIte, Int.reduceEq, Int.reduceNe, Nat.reduceLeDiff, one, Value.cells, Int.reduceLE, Int.reduceLT, Int.reduceToNat, add_mk, reduceCtorEq, List.mem_range'_1, true_and, and_true, and_false, false_and, Nat.reduceLT, Nat.reduceLeDiff, tyF, h1, h2]
  · rw [decide_eq_false (fun h => h1 h.1)]
    simp (config := {maxSteps := 1000000, implicitDefEqProofs := false}) only [↓zvD, zvU, ↓up_apply, ↓hv_apply, ↓upO_some, ↓upO_none, ↓ev_tmp, ↓ev_const, ↓ev_func, ↓ev_global, init, Nat.reduceEqDiff, Nat.reduceAdd, Nat.reduceMul, Nat.reduceSub, ↓reduceIte, Int.reduceEq, Int.reduceNe, Nat.reduceLeDiff, one, Value.cells, Int.reduceLE, Int.reduceLT, Int.reduceToNat, add_mk, reduceCtorEq, List.mem_range'_1, true_and, and_true, and_false, false_and, Nat.reduceLT, Nat.reduceLeDiff, tyF, h1]
theorem slotE : ElemT Tryz.prog 208 (.agg #[.bool false, .int .u8 0, .int .u8 0, .int .u8 0, .int .u8 0, .int .u8 0, .int .u8 0, .int .u8 0, .int .i64 0, .int .i64 0]) 10 24 := by unfold ElemT; kernel_rfl
def SketchNewR (slots : Int) (w : World) (v : Value) (w' : World) : Prop := More w w' ∧
    (1 ≤ slots ∧ slots ≤ 64 → ∃ (b p n : Nat) (cs : List Value), v = .tuple #[.pointer (some ⟨p, 0, none⟩), .int .i64 0] ∧ (n : Int) = slots ∧ w.heap.size ≤ b ∧ b < p ∧ cs.length = n * 10 ∧ Blk w' b 208 cs ∧
      Blk w' p 283 [.slice (some ⟨b, 0, none⟩) 0 n, .int .i64 0]) ∧
    (¬ (1 ≤ slots ∧ slots ≤ 64) → v = .tuple #[.pointer none, .int .i64 1])
theorem sketch_new (w : World) (slots : Int) : Ret Tryz.prog 155 #[.int .i64 slots] w (SketchNewR slots w) := by
  refine ret_of Tryz.func155 rfl (by kernel_rfl) (Nat.le_of_ble_eq_true (by kernel_rfl)) ?_
  simp (config := {maxSteps := 1000000, implicitDefEqProofs := false}) only [↓zvD, zvU, ↓up_apply, ↓hv_apply, ↓upO_some, ↓upO_none, ↓ev_tmp, ↓ev_const, ↓ev_func, ↓ev_global, init, Nat.reduceEqDiff, Nat.reduceAdd, Nat.reduceMul, Nat.reduceSub, ↓reduceIte, Int.reduceEq, Int.reduceNe, Nat.reduceLeDiff, one, Value.cells, Int.reduceLE, Int.reduceLT, Int.reduceToNat, add_mk, reduceCtorEq, List.mem_range'_1, true_and, and_true, and_false, false_and, Nat.reduceLT, Nat.reduceLeDiff, tyF]
  refine ⟨fun h => ⟨More.refl _, fun ho => absurd ho.1 (by omega), fun _ => rfl⟩, fun h1 => ?_⟩
  refine ⟨fun h => ⟨More.refl _, fun ho => absurd ho.2 (by omega), fun _ => rfl⟩, fun h2 => ?_⟩
  obtain ⟨n, rfl⟩ := Int.eq_ofNat_of_zero_le (show 0 ≤ slots by omega)
  refine mk_slice2 (n := 0) Tryz.underlying281 slotE (by omega) (by simp only [maxLen]; omega) (by omega) ?_
  generalize hz : madeCells _ (n * 10) = z
  have hzl : z.toList.length = n * 10 := by rw [← hz]; simp [size_madeCells]
  clear hz
  have hm2 := more_alloc w (.cells z 208)
  have hb2 := Blk.new w 208 z
  have s2 := size_alloc w (.cells z 208)
  generalize w.alloc (.cells z 208) = w2 at hm2 hb2 s2 ⊢
  simp (config := {maxSteps := 1000000, implicitDefEqProofs := false}) only [↓zvD, zvU, ↓up_apply, ↓hv_apply, ↓upO_some, ↓upO_none, ↓ev_tmp, ↓ev_const, ↓ev_func, ↓ev_global, init, Nat.reduceEqDiff, Nat.reduceAdd, Nat.reduceMul, Nat.reduceSub, ↓reduceIte, Int.reduceEq, Int.reduceNe, Nat.reduceLeDiff, one, Value.cells, Int.reduceLE, Int.reduceLT, Int.reduceToNat, add_mk, reduceCtorEq, List.mem_range'_1, true_and, and_true, and_false, false_and, Nat.reduceLT, Nat.reduceLeDiff, tyF]
  rw [build_of [.slice (some ⟨w.heap.size, 0, none⟩) 0 n, .int .i64 0] (by kernel_rfl) zer283 (by kernel_rfl) w2]
  simp (config := {maxSteps := 1000000, implicitDefEqProofs := false}) only [↓zvD, zvU, ↓up_apply, ↓hv_apply, ↓upO_some, ↓upO_none, ↓ev_tmp, ↓ev_const, ↓ev_func, ↓ev_global, init, Nat.reduceEqDiff, Nat.reduceAdd, Nat.reduceMul, Nat.reduceSub, ↓reduceIte, Int.reduceEq, Int.reduceNe, Nat.reduceLeDiff, one, Value.cells, Int.reduceLE, Int.reduceLT, Int.reduceToNat, add_mk, reduceCtorEq, List.mem_range'_1, true_and, and_true, and_false, false_and, Nat.reduceLT, Nat.reduceLeDiff, tyF]
  have hm3 := more_alloc w2 (.cells #[.slice (some ⟨w.heap.size, 0, none⟩) 0 n, .int .i64 0] 283)
  exact ⟨hm2.trans hm3, fun _ => ⟨w.heap.size, w2.heap.size, n, _, rfl, rfl, Nat.le_refl _, by omega, hzl, hb2.more hm3, Blk.new _ _ _⟩, fun hn => absurd ⟨h1, h2⟩ hn⟩
def windowOk (slots ns th : Int) : Prop := (1 ≤ slots ∧ slots ≤ 64) ∧ mayOk ns ∧ mayOk th
def WindowNewR (slots ns th : Int) (w : World) (v : Value) (w' : World) : Prop := More w w' ∧
    (windowOk slots ns th → ∃ (b q p n : Nat) (cs : List Value), v = .tuple #[.pointer (some ⟨p, 0, none⟩), .int .i64 0] ∧ (n : Int) = slots ∧ w.heap.size ≤ b ∧ b < q ∧ q < p ∧ cs.length = n * 10 ∧ Blk w' b 208 cs ∧
      Blk w' q 283 [.slice (some ⟨b, 0, none⟩) 0 n, .int .i64 0] ∧ Blk w' p 206 [.pointer (some ⟨q, 0, none⟩), .int .i64 ns, .int .i64 th, .int .i64 0]) ∧
    (¬ windowOk slots ns th → v = .tuple #[.pointer none, .int .i64 1])
theorem window_new (w : World) (slots ns th : Int) : Ret Tryz.prog 96 #[.int .i64 slots, .int .i64 ns, .int .i64 th] w (WindowNewR slots ns th w) := by
  refine ret_of Tryz.func96 rfl (by kernel_rfl) (Nat.le_of_ble_eq_true (by kernel_rfl)) ?_
  simp (config := {maxSteps := 1000000, implicitDefEqProofs := false}) only [↓zvD, zvU, ↓up_apply, ↓hv_apply, ↓upO_some, ↓upO_none, ↓ev_tmp, ↓ev_const, ↓ev_func, ↓ev_global, init, Nat.reduceEqDiff, Nat.reduceAdd, Nat.reduceMul, Nat.reduceSub, ↓reduceIte, Int.reduceEq, Int.reduceNe, Nat.reduceLeDiff, one, Value.cells, Int.reduceLE, Int.reduceLT, Int.reduceToNat, add_mk, reduceCtorEq, List.mem_range'_1, true_and, and_true, and_false, false_and, Nat.reduceLT, Nat.reduceLeDiff, tyF]
  refine call_ok Tryz.call155 (sketch_new w slots) ?_
  rintro v w1 ⟨hm1, hyes, hno⟩
  by_cases hs : 1 ≤ slots ∧ slots ≤ 64
  · obtain ⟨b, q, n, cs, rfl, hn, hb, hbq, hcl, hB, hQ⟩ := hyes hs
    have hQl := hQ.lt
    simp (config := {maxSteps := 1000000, implicitDefEqProofs := false}) only [↓zvD, zvU, ↓up_apply, ↓hv_apply, ↓upO_some, ↓upO_none, ↓ev_tmp, ↓ev_const, ↓ev_func, ↓ev_global, init, Nat.reduceEqDiff, Nat.reduceAdd, Nat.reduceMul, Nat.reduceSub, ↓reduceIte, Int.reduceEq, Int.reduceNe, Nat.reduceLeDiff, one, Value.cells, Int.reduceLE, Int.reduceLT, Int.reduceToNat, add_mk, reduceCtorEq, List.mem_range'_1, true_and, and_true, and_false, false_and, Nat.reduceLT, Nat.reduceLeDiff, tyF]
    refine call_ok Tryz.call142 (window_may w1 ns) ?_
    rintro _ w2 ⟨rfl, rfl⟩
    by_cases h1 : mayOk ns
    · rw [decide_eq_true h1]
      simp (config := {maxSteps := 1000000, implicitDefEqProofs := false}) only [↓zvD, zvU, ↓up_apply, ↓hv_apply, ↓upO_some, ↓upO_none, ↓ev_tmp, ↓ev_const, ↓ev_func, ↓ev_global, init, Nat.reduceEqDiff, Nat.reduceAdd, Nat.reduceMul, Nat.reduceSub, ↓reduceIte, Int.reduceEq, Int.reduceNe, Nat.reduceLeDiff, one, Value.cells, Int.reduceLE, Int.reduceLT, Int.reduceToNat, add_mk, reduceCtorEq, List.mem_range'_1, true_and, and_true, and_false, false_and, Nat.reduceLT, Nat.reduceLeDiff, tyF]
      refine call_ok Tryz.call142 (window_may w2 th) ?_
      rintro _ w3 ⟨rfl, rfl⟩
      by_cases h2 : mayOk th
      · rw [decide_eq_true h2]
        simp (config := {maxSteps := 1000000, implicitDefEqProofs := false}) only [↓zvD, zvU, ↓up_apply, ↓hv_apply, ↓upO_some, ↓upO_none, ↓ev_tmp, ↓ev_const, ↓ev_func, ↓ev_global, init, Nat.reduceEqDiff, Nat.reduceAdd, Nat.reduceMul, Nat.reduceSub, ↓reduceIte, Int.reduceEq, Int.reduceNe, Nat.reduceLeDiff, one, Value.cells, Int.reduceLE, Int.reduceLT, Int.reduceToNat, add_mk, reduceCtorEq, List.mem_range'_1, true_and, and_true, and_false, false_and, Nat.reduceLT, Nat.reduceLeDiff, tyF]
        rw [build_of [.pointer (some ⟨q, 0, none⟩), .int .i64 ns, .int .i64 th, .int .i64 0] (by kernel_rfl) zer206 (by kernel_rfl) w3]
        simp (config := {maxSteps := 1000000, implicitDefEqProofs := false}) only [↓zvD, zvU, ↓up_apply, ↓hv_apply, ↓upO_some, ↓upO_none, ↓ev_tmp, ↓ev_const, ↓ev_func, ↓ev_global, init, Nat.reduceEqDiff, Nat.reduceAdd, Nat.reduceMul, Nat.reduceSub, ↓reduceIte, Int.reduceEq, Int.reduceNe, Nat.reduceLeDiff, one, Value.cells, Int.reduceLE, Int.reduceLT, Int.reduceToNat, add_mk, reduceCtorEq, List.mem_range'_1, true_and, and_true, and_false, false_and, Nat.reduceLT, Nat.reduceLeDiff, tyF]
        have hm4 := more_alloc w3 (.cells #[.pointer (some ⟨q, 0, none⟩), .int .i64 ns, .int .i64 th, .int .i64 0] 206)
        exact ⟨hm1.trans hm4, fun _ => ⟨b, q, w3.heap.size, n, cs, rfl, hn, hb, hbq, hQl, hcl, hB.more hm4, hQ.more hm4, Blk.new _ _ _⟩, fun hn => absurd ⟨hs, h1, h2⟩ hn⟩
      · rw [decide_eq_false h2]
        simp (config := {maxSteps := 1000000, implicitDefEqProofs := false}) only [↓zvD, zvU, ↓up_apply, ↓hv_apply, ↓upO_some, ↓upO_none, ↓ev_tmp, ↓ev_const, ↓ev_func, ↓ev_global, init, Nat.reduceEqDiff, Nat.reduceAdd, Nat.reduceMul, Nat.reduceSub, ↓reduceIte, Int.reduceEq, Int.reduceNe, Nat.reduceLeDiff, one, Value.cells, Int.reduceLE, Int.reduceLT, Int.reduceToNat, add_mk, reduceCtorEq, List.mem_range'_1, true_and, and_true, and_false, false_and, Nat.reduceLT, Nat.reduceLeDiff, tyF]
        exact ⟨hm1, fun h => absurd h.2.2 h2, fun _ => rfl⟩
    · rw [decide_eq_false h1]
      simp (config := {maxSteps := 1000000, implicitDefEqProofs := false}) only [↓zvD, zvU, ↓up_apply, ↓hv_apply, ↓upO_some, ↓upO_none, ↓ev_tmp, ↓ev_const, ↓ev_func, ↓ev_global, init, Nat.reduceEqDiff, Nat.reduceAdd, Nat.reduceMul, Nat.reduceSub, ↓reduceIte, Int.reduceEq, Int.reduceNe, Nat.reduceLeDiff, one, Value.cells, Int.reduceLE, Int.reduceLT, Int.reduceToNat, add_mk, reduceCtorEq, List.mem_range'_1, true_and, and_true, and_false, false_and, Nat.reduceLT, Nat.reduceLeDiff, tyF]
      exact ⟨hm1, fun h => absurd h.2.1 h1, fun _ => rfl⟩
  · obtain rfl := hno hs
    simp (config := {maxSteps := 1000000, implicitDefEqProofs := false}) only [↓zvD, zvU, ↓up_apply, ↓hv_apply, ↓upO_some, ↓upO_none, ↓ev_tmp, ↓ev_const, ↓ev_func, ↓ev_global, init, Nat.reduceEqDiff, Nat.reduceAdd, Nat.reduceMul, Nat.reduceSub, ↓reduceIte, Int.reduceEq, Int.reduceNe, Nat.reduceLeDiff, one, Value.cells, Int.reduceLE, Int.reduceLT, Int.reduceToNat, add_mk, reduceCtorEq, List.mem_range'_1, true_and, and_true, and_false, false_and, Nat.reduceLT, Nat.reduceLeDiff, tyF]
    exact ⟨hm1, fun h => absurd h.1 hs, fun _ => rfl⟩
/-- a place of a table -/
structure PlaceM where
  state : Int
  p : PrefM
  v : List Value
def PlaceM.cells (x : PlaceM) : List Value := .int .i64 x.state :: (x.p.cells ++ x.v)
theorem placeE_box : ElemT Tryz.prog 287 (.agg (PlaceM.mk 0 prefZ [.int .i64 0, .pointer none]).cells.toArray) 11 32 := by unfold ElemT; kernel_rfl
def TableNewR_box (room : Int) (w : World) (v : Value) (w' : World) : Prop := More w w' ∧
    (1 ≤ room ∧ room ≤ 64 → ∃ (b p n : Nat), v = .tuple #[.pointer (some ⟨p, 0, none⟩), .int .i64 0] ∧ (n : Int) = 2 * room ∧ w.heap.size ≤ b ∧ b < p ∧ Blk w' b 287 ((List.replicate n (PlaceM.mk 0 prefZ [.int .i64 0, .pointer none])).flatMap PlaceM.cells) ∧
      Blk w' p 290 [.slice (some ⟨b, 0, none⟩) n n, .int .i64 room, .int .i64 0]) ∧
    (¬ (1 ≤ room ∧ room ≤ 64) → v = .tuple #[.pointer none, .int .i64 1])
theorem table_new_box (w : World) (room : Int) : Ret Tryz.prog 156 #[.int .i64 room] w (TableNewR_box room w) := by
  refine ret_of Tryz.func156 rfl (by kernel_rfl) (Nat.le_of_ble_eq_true (by kernel_rfl)) ?_
  simp (config := {maxSteps := 1000000, implicitDefEqProofs := false}) only [↓zvD, zvU, ↓up_apply, ↓hv_apply, ↓upO_some, ↓upO_none, ↓ev_tmp, ↓ev_const, ↓ev_func, ↓ev_global, init, Nat.reduceEqDiff, Nat.reduceAdd, Nat.reduceMul, Nat.reduceSub, ↓reduceIte, Int.reduceEq, Int.reduceNe, Nat.reduceLeDiff, one, Value.cells, Int.reduceLE, Int.reduceLT, Int.reduceToNat, add_mk, reduceCtorEq, List.mem_range'_1, true_and, and_true, and_false, false_and, Nat.reduceLT, Nat.reduceLeDiff, tyF]
  refine ⟨fun h => ⟨More.refl _, fun ho => absurd ho.1 (by omega), fun _ => rfl⟩, fun h1 => ?_⟩
  refine ⟨fun h => ⟨More.refl _, fun ho => absurd ho.2 (by omega), fun _ => rfl⟩, fun h2 => ?_⟩
  obtain ⟨r, rfl⟩ := Int.eq_ofNat_of_zero_le (show 0 ≤ room by omega)
  have em : IntKind.i64.wrap (2 * (r : Int)) = ((2 * r : Nat) : Int) := by rw [show 2 * (r : Int) = ((2 * r : Nat) : Int) by simp]; exact w64 (by omega) (by omega)
  rw [em]
  refine mk_slice Tryz.underlying288 placeE_box (by omega) (by simp only [maxLen]; omega) ?_
  rw [show (Value.agg (PlaceM.mk 0 prefZ [.int .i64 0, .pointer none]).cells.toArray).cells = (PlaceM.mk 0 prefZ [.int .i64 0, .pointer none]).cells.toArray from rfl]
  have hm2 := more_alloc w (.cells (madeCells (PlaceM.mk 0 prefZ [.int .i64 0, .pointer none]).cells.toArray (2 * r * 11)) 287)
  have hb2 := Blk.new w 287 (madeCells (PlaceM.mk 0 prefZ [.int .i64 0, .pointer none]).cells.toArray (2 * r * 11))
  have s2 := size_alloc w (.cells (madeCells (PlaceM.mk 0 prefZ [.int .i64 0, .pointer none]).cells.toArray (2 * r * 11)) 287)
  rw [made_row (E := PlaceM.cells) (s := 11) (PlaceM.mk 0 prefZ [.int .i64 0, .pointer none]) rfl (by omega) _ rfl] at hb2
  generalize w.alloc (.cells (madeCells (PlaceM.mk 0 prefZ [.int .i64 0, .pointer none]).cells.toArray (2 * r * 11)) 287) = w2 at hm2 hb2 s2 ⊢
  simp (config := {maxSteps := 1000000, implicitDefEqProofs := false}) only [↓zvD, zvU, ↓up_apply, ↓hv_apply, ↓upO_some, ↓upO_none, ↓ev_tmp, ↓ev_const, ↓ev_func, ↓ev_global, init, Nat.reduceEqDiff, Nat.reduceAdd, Nat.reduceMul, Nat.reduceSub, ↓reduceIte, Int.reduceEq, Int.reduceNe, Nat.reduceLeDiff, one, Value.cells, Int.reduceLE, Int.reduceLT, Int.reduceToNat, add_mk, reduceCtorEq, List.mem_range'_1, true_and, and_true, and_false, false_and, Nat.reduceLT, Nat.reduceLeDiff, tyF]
  rw [build_of [.slice (some ⟨w.heap.size, 0, none⟩) (2 * r) (2 * r), .int .i64 r, .int .i64 0] (by kernel_rfl) zer290 (by kernel_rfl) w2]
  simp (config := {maxSteps := 1000000, implicitDefEqProofs := false}) only [↓zvD, zvU, ↓up_apply, ↓hv_apply, ↓upO_some, ↓upO_none, ↓ev_tmp, ↓ev_const, ↓ev_func, ↓ev_global, init, Nat.reduceEqDiff, Nat.reduceAdd, Nat.reduceMul, Nat.reduceSub, ↓reduceIte, Int.reduceEq, Int.reduceNe, Nat.reduceLeDiff, one, Value.cells, Int.reduceLE, Int.reduceLT, Int.reduceToNat, add_mk, reduceCtorEq, List.mem_range'_1, true_and, and_true, and_false, false_and, Nat.reduceLT, Nat.reduceLeDiff, tyF]
  have hm3 := more_alloc w2 (.cells #[.slice (some ⟨w.heap.size, 0, none⟩) (2 * r) (2 * r), .int .i64 r, .int .i64 0] 290)
  exact ⟨hm2.trans hm3, fun _ => ⟨w.heap.size, w2.heap.size, 2 * r, rfl, by simp, Nat.le_refl _, by omega, hb2.more hm3, Blk.new _ _ _⟩, fun hn => absurd ⟨h1, h2⟩ hn⟩
def tokOk (rate burst : Int) : Prop := 0 ≤ rate ∧ rate ≤ 1073741824 ∧ 1 ≤ burst ∧ burst ≤ 1073741824
def TokNewR (rate burst : Int) (w : World) (v : Value) (w' : World) : Prop := More w w' ∧
    (tokOk rate burst → ∃ p : Nat, v = .tuple #[.pointer (some ⟨p, 0, none⟩), .int .i64 0] ∧ w.heap.size ≤ p ∧ Blk w' p 292 [.int .i64 rate, .int .i64 (burst * 1048576), .int .i64 (burst * 1048576), .int .i64 0]) ∧
    (¬ tokOk rate burst → v = .tuple #[.pointer none, .int .i64 1])
theorem shl20 (x : Int) : x * 2 ^ min 20 IntKind.i64.bits = x * 1048576 := by
  have : min 20 IntKind.i64.bits = 20 := by simp [IntKind.bits]
  rw [this]
  rfl
theorem token_new (w : World) (rate burst : Int) : Ret Tryz.prog 126 #[.int .i64 rate, .int .i64 burst] w (TokNewR rate burst w) := by
  refine ret_of Tryz.func126 rfl (by kernel_rfl) (Nat.le_of_ble_eq_true (by kernel_rfl)) ?_
  simp (config := {maxSteps := 1000000, implicitDefEqProofs := false}) only [↓zvD, zvU, ↓up_apply, ↓hv_apply, ↓upO_some, ↓upO_none, ↓ev_tmp, ↓ev_const, ↓ev_func, ↓ev_global, init, Nat.reduceEqDiff, Nat.reduceAdd, Nat.reduceMul, Nat.reduceSub, ↓reduceIte, Int.reduceEq, Int.reduceNe, Nat.reduceLeDiff, one, Value.cells, Int.reduceLE, Int.reduceLT, Int.reduceToNat, add_mk, reduceCtorEq, List.mem_range'_1, true_and, and_true, and_false, false_and, Nat.reduceLT, Nat.reduceLeDiff, tyF]
  refine ⟨fun h => ⟨More.refl _, fun ho => absurd ho (by unfold tokOk; omega), fun _ => rfl⟩, fun h1 => ?_⟩
  refine ⟨fun h => ⟨More.refl _, fun ho => absurd ho (by unfold tokOk; omega), fun _ => rfl⟩, fun h2 => ?_⟩
  refine ⟨fun h => ⟨More.refl _, fun ho => absurd ho (by unfold tokOk; omega), fun _ => rfl⟩, fun h3 => ?_⟩
  refine ⟨fun h => ⟨More.refl _, fun ho => absurd ho (by unfold tokOk; omega), fun _ => rfl⟩, fun h4 => ?_⟩
  have es : IntKind.i64.wrap (burst * 1048576) = burst * 1048576 := w64 (by omega) (by omega)
  have hs := shl20 burst
  simp (config := {maxSteps := 1000000, implicitDefEqProofs := false}) only [↓zvD, zvU, ↓up_apply, ↓hv_apply, ↓upO_some, ↓upO_none, ↓ev_tmp, ↓ev_const, ↓ev_func, ↓ev_global, init, Nat.reduceEqDiff, Nat.reduceAdd, Nat.reduceMul, Nat.reduceSub, ↓reduceIte, Int.reduceEq, Int.reduceNe, Nat.reduceLeDiff, one, Value.cells, Int.reduceLE, Int.reduceLT, Int.reduceToNat, add_mk, reduceCtorEq, List.mem_range'_1, true_and, and_true, and_false, false_and, Nat.reduceLT, Nat.reduceLeDiff, tyF, hs, es]
  rw [build_of [.int .i64 rate, .int .i64 (burst * 1048576), .int .i64 (burst * 1048576), .int .i64 0] (by kernel_rfl) zer292 (by kernel_rfl) w]
  simp (config := {maxSteps := 1000000, implicitDefEqProofs := false}) only [↓zvD, zvU, ↓up_apply, ↓hv_apply, ↓upO_some, ↓upO_none, ↓ev_tmp, ↓ev_const, ↓ev_func, ↓ev_global, init, Nat.reduceEqDiff, Nat.reduceAdd, Nat.reduceMul, Nat.reduceSub, ↓reduceIte, Int.reduceEq, Int.reduceNe, Nat.reduceLeDiff, one, Value.cells, Int.reduceLE, Int.reduceLT, Int.reduceToNat, add_mk, reduceCtorEq, List.mem_range'_1, true_and, and_true, and_false, false_and, Nat.reduceLT, Nat.reduceLeDiff, tyF]
  exact ⟨more_alloc _ _, fun _ => ⟨w.heap.size, rfl, Nat.le_refl _, Blk.new _ _ _⟩, fun hn => absurd ⟨h1, h2, h3, h4⟩ hn⟩
def boxOk (room term rate burst : Int) : Prop := (1 ≤ room ∧ room ≤ 64) ∧ (1 ≤ term ∧ term ≤ 4611686018427387903) ∧ tokOk rate burst
def BoxNewR (room term rate burst : Int) (w : World) (v : Value) (w' : World) : Prop := More w w' ∧
    (boxOk room term rate burst → ∃ (b q p n : Nat), v = .tuple #[.pointer (some ⟨p, 0, none⟩), .int .i64 0] ∧ (n : Int) = 2 * room ∧ w.heap.size ≤ b ∧ b < q ∧ q < p ∧ Blk w' b 287 ((List.replicate n (PlaceM.mk 0 prefZ [.int .i64 0, .pointer none])).flatMap PlaceM.cells) ∧
      Blk w' q 290 [.slice (some ⟨b, 0, none⟩) n n, .int .i64 room, .int .i64 0] ∧ Blk w' p 216 [.pointer (some ⟨q, 0, none⟩), .int .i64 term, .int .i64 rate, .int .i64 burst]) ∧
    (¬ boxOk room term rate burst → v = .tuple #[.pointer none, .int .i64 1])
theorem box_new (w : World) (room term rate burst : Int) : Ret Tryz.prog 97 #[.int .i64 room, .int .i64 term, .int .i64 rate, .int .i64 burst] w (BoxNewR room term rate burst w) := by
  refine ret_of Tryz.func97 rfl (by kernel_rfl) (Nat.le_of_ble_eq_true (by kernel_rfl)) ?_
  simp (config := {maxSteps := 1000000, implicitDefEqProofs := false}) only [↓zvD, zvU, ↓up_apply, ↓hv_apply, ↓upO_some, ↓upO_none, ↓ev_tmp, ↓ev_const, ↓ev_func, ↓ev_global, init, Nat.reduceEqDiff, Nat.reduceAdd, Nat.reduceMul, Nat.reduceSub, ↓reduceIte, Int.reduceEq, Int.reduceNe, Nat.reduceLeDiff, one, Value.cells, Int.reduceLE, Int.reduceLT, Int.reduceToNat, add_mk, reduceCtorEq, List.mem_range'_1, true_and, and_true, and_false, false_and, Nat.reduceLT, Nat.reduceLeDiff, tyF]
  refine call_ok Tryz.call156 (table_new_box w room) ?_
  rintro v w1 ⟨hm1, hyes, hno⟩
  by_cases hs : 1 ≤ room ∧ room ≤ 64
  · obtain ⟨b, q, n, rfl, hn, hb, hbq, hB, hQ⟩ := hyes hs
    have hQl := hQ.lt
    simp (config := {maxSteps := 1000000, implicitDefEqProofs := false}) only [↓zvD, zvU, ↓up_apply, ↓hv_apply, ↓upO_some, ↓upO_none, ↓ev_tmp, ↓ev_const, ↓ev_func, ↓ev_global, init, Nat.reduceEqDiff, Nat.reduceAdd, Nat.reduceMul, Nat.reduceSub, ↓reduceIte, Int.reduceEq, Int.reduceNe, Nat.reduceLeDiff, one, Value.cells, Int.reduceLE, Int.reduceLT, Int.reduceToNat, add_mk, reduceCtorEq, List.mem_range'_1, true_and, and_true, and_false, false_and, Nat.reduceLT, Nat.reduceLeDiff, tyF]
    refine ⟨fun h => ⟨hm1, fun ho => absurd ho.2.1 (by omega), fun _ => rfl⟩, fun h1 => ?_⟩
    refine ⟨fun h => ⟨hm1, fun ho => absurd ho.2.1 (by omega), fun _ => rfl⟩, fun h2 => ?_⟩
    refine call_ok Tryz.call126 (token_new w1 rate burst) ?_
    rintro v w2 ⟨hm2, hyes2, hno2⟩
    have s2 := hm2.size
    by_cases ht : tokOk rate burst
    · obtain ⟨p, rfl, _, _⟩ := hyes2 ht
      simp (config := {maxSteps := 1000000, implicitDefEqProofs := false}) only [↓zvD, zvU, ↓up_apply, ↓hv_apply, ↓upO_some, ↓upO_none, ↓ev_tmp, ↓ev_const, ↓ev_func, ↓ev_global, init, Nat.reduceEqDiff, Nat.reduceAdd, Nat.reduceMul, Nat.reduceSub, ↓reduceIte, Int.reduceEq, Int.reduceNe, Nat.reduceLeDiff, one, Value.cells, Int.reduceLE, Int.reduceLT, Int.reduceToNat, add_mk, reduceCtorEq, List.mem_range'_1, true_and, and_true, and_false, false_and, Nat.reduceLT, Nat.reduceLeDiff, tyF]
      rw [build_of [.pointer (some ⟨q, 0, none⟩), .int .i64 term, .int .i64 rate, .int .i64 burst] (by kernel_rfl) zer216 (by kernel_rfl) w2]
      simp (config := {maxSteps := 1000000, implicitDefEqProofs := false}) only [↓zvD, zvU, ↓up_apply, ↓hv_apply, ↓upO_some, ↓upO_none, ↓ev_tmp, ↓ev_const, ↓ev_func, ↓ev_global, init, Nat.reduceEqDiff, Nat.reduceAdd, Nat.reduceMul, Nat.reduceSub, ↓reduceIte, Int.reduceEq, Int.reduceNe, Nat.reduceLeDiff, one, Value.cells, Int.reduceLE, Int.reduceLT, Int.reduceToNat, add_mk, reduceCtorEq, List.mem_range'_1, true_and, and_true, and_false, false_and, Nat.reduceLT, Nat.reduceLeDiff, tyF]
      have hm3 := more_alloc w2 (.cells #[.pointer (some ⟨q, 0, none⟩), .int .i64 term, .int .i64 rate, .int .i64 burst] 216)
      exact ⟨(hm1.trans hm2).trans hm3, fun _ => ⟨b, q, w2.heap.size, n, rfl, hn, hb, hbq, by omega, hB.more (hm2.trans hm3), hQ.more (hm2.trans hm3), Blk.new _ _ _⟩, fun hn => absurd ⟨hs, ⟨h1, h2⟩, ht⟩ hn⟩
    · obtain rfl := hno2 ht
      simp (config := {maxSteps := 1000000, implicitDefEqProofs := false}) only [↓zvD, zvU, ↓up_apply, ↓hv_apply, ↓upO_some, ↓upO_none, ↓ev_tmp, ↓ev_const, ↓ev_func, ↓ev_global, init, Nat.reduceEqDiff, Nat.reduceAdd, Nat.reduceMul, Nat.reduceSub, ↓reduceIte, Int.reduceEq, Int.reduceNe, Nat.reduceLeDiff, one, Value.cells, Int.reduceLE, Int.reduceLT, Int.reduceToNat, add_mk, reduceCtorEq, List.mem_range'_1, true_and, and_true, and_false, false_and, Nat.reduceLT, Nat.reduceLeDiff, tyF]
      exact ⟨hm1.trans hm2, fun h => absurd h.2.2 ht, fun _ => rfl⟩
  · obtain rfl := hno hs
    simp (config := {maxSteps := 1000000, implicitDefEqProofs := false}) only [↓zvD, zvU, ↓up_apply, ↓hv_apply, ↓upO_some, ↓upO_none, ↓ev_tmp, ↓ev_const, ↓ev_func, ↓ev_global, init, Nat.reduceEqDiff, Nat.reduceAdd, Nat.reduceMul, Nat.reduceSub, ↓reduceIte, Int.reduceEq, Int.reduceNe, Nat.reduceLeDiff, one, Value.cells, Int.reduceLE, Int.reduceLT, Int.reduceToNat, add_mk, reduceCtorEq, List.mem_range'_1, true_and, and_true, and_false, false_and, Nat.reduceLT, Nat.reduceLeDiff, tyF]
    exact ⟨hm1, fun h => absurd h.1 hs, fun _ => rfl⟩
end Go.Proofs.YtahcaplhdgphcaaGreat
