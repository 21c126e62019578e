/-
  Layer 26: the reference.
-/
import Derived.Test.YtloiglnejffmkaaCfgD
import Derived.Test.YtloiglnejffmkaaRef01
namespace Go.Proofs.Ytloiglnejffmkaa
open Go Go.RowKit Go.Proofs.RV
set_option linter.unusedSimpArgs false
set_option linter.unusedVariables false
set_option maxRecDepth 10000
set_option maxHeartbeats 4000000

theorem list20 {c : List Int} (h : c.length = 20) : c = [c.getD 0 0, c.getD 1 0, c.getD 2 0, c.getD 3 0, c.getD 4 0, c.getD 5 0, c.getD 6 0, c.getD 7 0, c.getD 8 0, c.getD 9 0, c.getD 10 0, c.getD 11 0, c.getD 12 0, c.getD 13 0, c.getD 14 0, c.getD 15 0, c.getD 16 0, c.getD 17 0, c.getD 18 0, c.getD 19 0] := by
  match c, h with
  | [c0, c1, c2, c3, c4, c5, c6, c7, c8, c9, c10, c11, c12, c13, c14, c15, c16, c17, c18, c19], _ => rfl
/-- twenty numbers in a block -/
def Ints (w : World) (A : Option Addr) (c : List Int) : Prop := Cs w A (ints c)
theorem ref_fields (w : World) (c : List Int) (hc : c.length = 20) : Ret Try.prog 114 #[.agg (ints c).toArray] w fun v w' => ∃ b, v = .slice (some ⟨b, 0, none⟩) 20 20 ∧ w.heap.size ≤ b ∧ Blk w' b 2 (ints c) ∧ More w w' := by
  refine ret_of Try.func114 rfl (by kernel_rfl) (Nat.le_of_ble_eq_true (by kernel_rfl)) ?_
  have hm1 := more_alloc w (.cells (ints c).toArray 84)
  have hb1 := Blk.new w 84 (ints c).toArray
  simp (config := {maxSteps := 1000000}) only [↓zvD, zvU, ↓up_apply, ↓hv_apply, ↓upO_some, ↓upO_none, ↓ev_tmp, ↓ev_const, ↓ev_func, ↓ev_global, init, Nat.reduceEqDiff, Nat.reduceAdd, Nat.reduceMul, Nat.reduceSub, ↓reduceIte, Int.reduceEq, Int.reduceNe, Nat.reduceLeDiff, one, Value.cells, Int.reduceLE, Int.reduceLT, Int.reduceToNat, add_mk, reduceCtorEq, List.mem_range'_1, true_and, and_true, and_false, false_and, Nat.reduceLT, Nat.reduceLeDiff, tyF]
  generalize w.alloc (.cells (ints c).toArray 84) = w1 at hm1 hb1 ⊢
  rw [List.toList_toArray] at hb1
  have g0 : ∀ i, i < 20 → w1.cell? ⟨w.heap.size, i, none⟩ = some (.int .i64 (c.getD i 0)) := fun i hi => by rw [hb1.cell]; exact ints_at (by omega)
  simp (config := {maxSteps := 1000000}) only [↓zvD, zvU, ↓up_apply, ↓hv_apply, ↓upO_some, ↓upO_none, ↓ev_tmp, ↓ev_const, ↓ev_func, ↓ev_global, init, Nat.reduceEqDiff, Nat.reduceAdd, Nat.reduceMul, Nat.reduceSub, ↓reduceIte, Int.reduceEq, Int.reduceNe, Nat.reduceLeDiff, one, Value.cells, Int.reduceLE, Int.reduceLT, Int.reduceToNat, add_mk, reduceCtorEq, List.mem_range'_1, true_and, and_true, and_false, false_and, Nat.reduceLT, Nat.reduceLeDiff, tyF, g0 0 (by omega), g0 1 (by omega), g0 2 (by omega), g0 3 (by omega), g0 4 (by omega), g0 5 (by omega), g0 6 (by omega), g0 7 (by omega), g0 8 (by omega), g0 9 (by omega), g0 10 (by omega), g0 11 (by omega), g0 12 (by omega), g0 13 (by omega), g0 14 (by omega), g0 15 (by omega), g0 16 (by omega), g0 17 (by omega), g0 18 (by omega), g0 19 (by omega)]
  have e : [.int .i64 (c.getD 0 0), .int .i64 (c.getD 1 0), .int .i64 (c.getD 2 0), .int .i64 (c.getD 3 0), .int .i64 (c.getD 4 0), .int .i64 (c.getD 5 0), .int .i64 (c.getD 6 0), .int .i64 (c.getD 7 0), .int .i64 (c.getD 8 0), .int .i64 (c.getD 9 0), .int .i64 (c.getD 10 0), .int .i64 (c.getD 11 0), .int .i64 (c.getD 12 0), .int .i64 (c.getD 13 0), .int .i64 (c.getD 14 0), .int .i64 (c.getD 15 0), .int .i64 (c.getD 16 0), .int .i64 (c.getD 17 0), .int .i64 (c.getD 18 0), .int .i64 (c.getD 19 0)] = ints c := (congrArg ints (list20 hc)).symm
  refine bslice (z := .int .i64 0) (cells := (ints c).toArray) Try.underlying121 int64E (by omega) (by
    have := bcells_list (z := .int .i64 0) [.int .i64 (c.getD 0 0), .int .i64 (c.getD 1 0), .int .i64 (c.getD 2 0), .int .i64 (c.getD 3 0), .int .i64 (c.getD 4 0), .int .i64 (c.getD 5 0), .int .i64 (c.getD 6 0), .int .i64 (c.getD 7 0), .int .i64 (c.getD 8 0), .int .i64 (c.getD 9 0), .int .i64 (c.getD 10 0), .int .i64 (c.getD 11 0), .int .i64 (c.getD 12 0), .int .i64 (c.getD 13 0), .int .i64 (c.getD 14 0), .int .i64 (c.getD 15 0), .int .i64 (c.getD 16 0), .int .i64 (c.getD 17 0), .int .i64 (c.getD 18 0), .int .i64 (c.getD 19 0)] (by intro v hv; rw [e] at hv; simp [ints] at hv; obtain ⟨a, _, rfl⟩ := hv; rfl)
    rw [← e]; exact this) ?_
  simp (config := {maxSteps := 1000000}) only [↓zvD, zvU, ↓up_apply, ↓hv_apply, ↓upO_some, ↓upO_none, ↓ev_tmp, ↓ev_const, ↓ev_func, ↓ev_global, init, Nat.reduceEqDiff, Nat.reduceAdd, Nat.reduceMul, Nat.reduceSub, ↓reduceIte, Int.reduceEq, Int.reduceNe, Nat.reduceLeDiff, one, Value.cells, Int.reduceLE, Int.reduceLT, Int.reduceToNat, add_mk, reduceCtorEq, List.mem_range'_1, true_and, and_true, and_false, false_and, Nat.reduceLT, Nat.reduceLeDiff, tyF]
  have hm2 := more_alloc w1 (.cells (ints c).toArray 2)
  exact ⟨_, rfl, hm1.size, Blk.new _ _ _, hm1.trans hm2⟩
theorem ref_of (w : World) (b : Nat) (n cp : Nat) (c : List Int) (hc : c.length = 20) (hn : n = 20) (A : Option Addr) (hA : Cs w A (ints c)) : Ret Try.prog 131 #[.slice A n cp] w fun v w' => v = .agg (ints c).toArray ∧ More w w' := by
  subst hn
  refine ret_of Try.func131 rfl (by kernel_rfl) (Nat.le_of_ble_eq_true (by kernel_rfl)) ?_
  have z49 : zer Try.prog 84 = some (.agg (ints z20).toArray) := by rw [zer84]; rfl
  simp (config := {maxSteps := 1000000}) only [↓zvD, zvU, ↓up_apply, ↓hv_apply, ↓upO_some, ↓upO_none, ↓ev_tmp, ↓ev_const, ↓ev_func, ↓ev_global, init, Nat.reduceEqDiff, Nat.reduceAdd, Nat.reduceMul, Nat.reduceSub, ↓reduceIte, Int.reduceEq, Int.reduceNe, Nat.reduceLeDiff, one, Value.cells, Int.reduceLE, Int.reduceLT, Int.reduceToNat, add_mk, reduceCtorEq, List.mem_range'_1, true_and, and_true, and_false, false_and, Nat.reduceLT, Nat.reduceLeDiff, tyF, z49]
  have hm1 := more_alloc w (.cells (ints z20).toArray 84)
  have hb1 := Blk.new w 84 (ints z20).toArray
  generalize w.alloc (.cells (ints z20).toArray 84) = w1 at hm1 hb1 ⊢
  rw [List.toList_toArray] at hb1
  obtain ⟨a, rfl⟩ := hA.some_of (by rw [ints_len]; omega)
  have g0 : ∀ i, i < 20 → w1.cell? (a.add i) = some (.int .i64 (c.getD i 0)) := fun i hi => by
    obtain ⟨x, hx, h⟩ := hA.more hm1 i _ (ints_at (s := c) (k := i) (by omega))
    cases hx
    exact h
  refine draw_name fun K hK => ?_
  refine draw_seen 60 [[], [0], [0, 1], [], [3], [3, 4], [], [6], [6, 7], [], [9], [9, 10], [], [12], [12, 13], [], [15], [15, 16], [], [18], [18, 19], [], [21], [21, 22], [], [24], [24, 25], [], [27], [27, 28], [], [30], [30, 31], [], [33], [33, 34], [], [36], [36, 37], [], [39], [39, 40], [], [42], [42, 43], [], [45], [45, 46], [], [48], [48, 49], [], [51], [51, 52], [], [54], [54, 55], [], [57], [57, 58], [0, 1, 2, 3, 4, 5, 6, 7, 8, 9, 10, 11, 12, 13, 14, 15, 16, 17, 18, 19, 20, 21, 22, 23, 24, 25, 26, 27, 28, 29, 30, 31, 32, 33, 34, 35, 36, 37, 38, 39, 40, 41, 42, 43, 44, 45, 46, 47, 48, 49, 50, 51, 52, 53, 54, 55, 56, 57, 58, 59], [0, 1, 2, 3, 4, 5, 6, 7, 8, 9, 10, 11, 12, 13, 14, 15, 16, 17, 18, 19, 20, 21, 22, 23, 24, 25, 26, 27, 28, 29, 30, 31, 32, 33, 34, 35, 36, 37, 38, 39, 40, 41, 42, 43, 44, 45, 46, 47, 48, 49, 50, 51, 52, 53, 54, 55, 56, 57, 58, 59, 60]] (RV.look []) mixed (by kernel_rfl) (by kernel_rfl) (look_keeps _ (by simp)) ?_
  simp (config := {maxSteps := 1000000}) only [↓zvD, zvU, ↓zqD, ↓up_apply, ↓hv_apply, ↓upO_some, ↓upO_none, ↓ev_tmp, ↓ev_const, ↓ev_func, ↓ev_global, init, Nat.reduceEqDiff, Nat.reduceAdd, Nat.reduceMul, Nat.reduceSub, ↓reduceIte, Int.reduceEq, Int.reduceNe, Nat.reduceLeDiff, one, Value.cells, Int.reduceLE, Int.reduceLT, Int.reduceToNat, add_mk, reduceCtorEq, List.mem_range'_1, true_and, and_true, and_false, false_and, Nat.reduceLT, Nat.reduceLeDiff, tyF, g0 0 (by omega), g0 1 (by omega), g0 2 (by omega), g0 3 (by omega), g0 4 (by omega), g0 5 (by omega), g0 6 (by omega), g0 7 (by omega), g0 8 (by omega), g0 9 (by omega), g0 10 (by omega), g0 11 (by omega), g0 12 (by omega), g0 13 (by omega), g0 14 (by omega), g0 15 (by omega), g0 16 (by omega), g0 17 (by omega), g0 18 (by omega), g0 19 (by omega)]
  intro w2 hm2
  have e : [.int .i64 (c.getD 0 0), .int .i64 (c.getD 1 0), .int .i64 (c.getD 2 0), .int .i64 (c.getD 3 0), .int .i64 (c.getD 4 0), .int .i64 (c.getD 5 0), .int .i64 (c.getD 6 0), .int .i64 (c.getD 7 0), .int .i64 (c.getD 8 0), .int .i64 (c.getD 9 0), .int .i64 (c.getD 10 0), .int .i64 (c.getD 11 0), .int .i64 (c.getD 12 0), .int .i64 (c.getD 13 0), .int .i64 (c.getD 14 0), .int .i64 (c.getD 15 0), .int .i64 (c.getD 16 0), .int .i64 (c.getD 17 0), .int .i64 (c.getD 18 0), .int .i64 (c.getD 19 0)] = ints c := (congrArg ints (list20 hc)).symm
  rw [build_of [.int .i64 (c.getD 0 0), .int .i64 (c.getD 1 0), .int .i64 (c.getD 2 0), .int .i64 (c.getD 3 0), .int .i64 (c.getD 4 0), .int .i64 (c.getD 5 0), .int .i64 (c.getD 6 0), .int .i64 (c.getD 7 0), .int .i64 (c.getD 8 0), .int .i64 (c.getD 9 0), .int .i64 (c.getD 10 0), .int .i64 (c.getD 11 0), .int .i64 (c.getD 12 0), .int .i64 (c.getD 13 0), .int .i64 (c.getD 14 0), .int .i64 (c.getD 15 0), .int .i64 (c.getD 16 0), .int .i64 (c.getD 17 0), .int .i64 (c.getD 18 0), .int .i64 (c.getD 19 0)] (by kernel_rfl) z49 (by kernel_rfl) w2, e]
  simp (config := {maxSteps := 1000000}) only [↓zvD, zvU, ↓up_apply, ↓hv_apply, ↓upO_some, ↓upO_none, ↓ev_tmp, ↓ev_const, ↓ev_func, ↓ev_global, init, Nat.reduceEqDiff, Nat.reduceAdd, Nat.reduceMul, Nat.reduceSub, ↓reduceIte, Int.reduceEq, Int.reduceNe, Nat.reduceLeDiff, one, Value.cells, Int.reduceLE, Int.reduceLT, Int.reduceToNat, add_mk, reduceCtorEq, List.mem_range'_1, true_and, and_true, and_false, false_and, Nat.reduceLT, Nat.reduceLeDiff, tyF, p_nil]
  refine st_all (hb1.more hm2) (by rw [List.size_toArray, ints_len, hc]) (by rw [ints_len]; rfl) (by intro u hu; exact ints_one _ u (by simpa using hu)) fun w3 k1 k2 => ?_
  rw [List.toList_toArray] at k2
  refine hK _ _ ?_
  have hv := k2.all_eq 20 (by rw [ints_len, hc])
  simp (config := {maxSteps := 1000000}) only [↓zvD, zvU, ↓up_apply, ↓hv_apply, ↓upO_some, ↓upO_none, ↓ev_tmp, ↓ev_const, ↓ev_func, ↓ev_global, init, Nat.reduceEqDiff, Nat.reduceAdd, Nat.reduceMul, Nat.reduceSub, ↓reduceIte, Int.reduceEq, Int.reduceNe, Nat.reduceLeDiff, one, Value.cells, Int.reduceLE, Int.reduceLT, Int.reduceToNat, add_mk, reduceCtorEq, List.mem_range'_1, true_and, and_true, and_false, false_and, Nat.reduceLT, Nat.reduceLeDiff, tyF, hv]
  exact k1.below (hm1.trans hm2) (Nat.le_refl _)
theorem ref_in26 (w : World) (n a b : Int) : Ret Try.prog 115 #[.int .i64 n, .int .i64 a, .int .i64 b] w fun v w' => v = .bool (decide (a ≤ n ∧ n ≤ b)) ∧ w' = w := by
  refine ret_of Try.func115 rfl (by kernel_rfl) (Nat.le_of_ble_eq_true (by kernel_rfl)) ?_
  by_cases h1 : a ≤ n
  · by_cases h2 : n ≤ b
    · rw [decide_eq_true (show a ≤ n ∧ n ≤ b from ⟨h1, h2⟩)]
      simp (config := {maxSteps := 1000000}) only [↓zvD, zvU, ↓up_apply, ↓hv_apply, ↓upO_some, ↓upO_none, ↓ev_tmp, ↓ev_const, ↓ev_func, ↓ev_global, init, Nat.reduceEqDiff, Nat.reduceAdd, Nat.reduceMul, Nat.reduceSub, ↓reduceIte, Int.reduceEq, Int.reduceNe, Nat.reduceLeDiff, one, Value.cells, Int.reduceLE, Int.reduceLT, Int.reduceToNat, add_mk, reduceCtorEq, List.mem_range'_1, true_and, and_true, and_false, false_and, Nat.reduceLT, Nat.reduceLeDiff, tyF, h1, h2]
    · rw [decide_eq_false (fun h => h2 h.2)]
      simp (config := {maxSteps := 1000000}) only [↓zvD, zvU, ↓up_apply, ↓hv_apply, ↓upO_some, ↓upO_none, ↓ev_tmp, ↓ev_const, ↓ev_func, ↓ev_global, init, Nat.reduceEqDiff, Nat.reduceAdd, Nat.reduceMul, Nat.reduceSub, ↓reduceIte, Int.reduceEq, Int.reduceNe, Nat.reduceLeDiff, one, Value.cells, Int.reduceLE, Int.reduceLT, Int.reduceToNat, add_mk, reduceCtorEq, List.mem_range'_1, true_and, and_true, and_false, false_and, Nat.reduceLT, Nat.reduceLeDiff, tyF, h1, h2]
  · rw [decide_eq_false (fun h => h1 h.1)]
    simp (config := {maxSteps := 1000000}) only [↓zvD, zvU, ↓up_apply, ↓hv_apply, ↓upO_some, ↓upO_none, ↓ev_tmp, ↓ev_const, ↓ev_func, ↓ev_global, init, Nat.reduceEqDiff, Nat.reduceAdd, Nat.reduceMul, Nat.reduceSub, ↓reduceIte, Int.reduceEq, Int.reduceNe, Nat.reduceLeDiff, one, Value.cells, Int.reduceLE, Int.reduceLT, Int.reduceToNat, add_mk, reduceCtorEq, List.mem_range'_1, true_and, and_true, and_false, false_and, Nat.reduceLT, Nat.reduceLeDiff, tyF, h1]
def RightJ (c : List Int) (w : World) (v13 : Value) (w' : World) : Prop := ∃ k : Nat, v13 = .int .i64 k ∧ k ≤ 20 ∧ (∀ i, i < k → leastC.getD i 0 ≤ c.getD i 0 ∧ c.getD i 0 ≤ mostC.getD i 0) ∧ More w w'
theorem ref_right26 (w : World) (c : List Int) (hc : c.length = 20) : Ret Try.prog 88 #[.agg (ints c).toArray] w fun v w' => v = .bool (decide (rightM c)) ∧ More w w' := by
  refine ret_of Try.func88 rfl (by kernel_rfl) (Nat.le_of_ble_eq_true (by kernel_rfl)) ?_
  have hm1 := more_alloc w (.cells (ints c).toArray 84)
  have hb1 := Blk.new w 84 (ints c).toArray
  simp (config := {maxSteps := 1000000}) only [↓zvD, zvU, ↓up_apply, ↓hv_apply, ↓upO_some, ↓upO_none, ↓ev_tmp, ↓ev_const, ↓ev_func, ↓ev_global, init, Nat.reduceEqDiff, Nat.reduceAdd, Nat.reduceMul, Nat.reduceSub, ↓reduceIte, Int.reduceEq, Int.reduceNe, Nat.reduceLeDiff, one, Value.cells, Int.reduceLE, Int.reduceLT, Int.reduceToNat, add_mk, reduceCtorEq, List.mem_range'_1, true_and, and_true, and_false, false_and, Nat.reduceLT, Nat.reduceLeDiff, tyF]
  generalize w.alloc (.cells (ints c).toArray 84) = w1 at hm1 hb1 ⊢
  rw [List.toList_toArray] at hb1
  have hv := hb1.all_eq 20 (by rw [ints_len, hc])
  simp (config := {maxSteps := 1000000}) only [↓zvD, zvU, ↓up_apply, ↓hv_apply, ↓upO_some, ↓upO_none, ↓ev_tmp, ↓ev_const, ↓ev_func, ↓ev_global, init, Nat.reduceEqDiff, Nat.reduceAdd, Nat.reduceMul, Nat.reduceSub, ↓reduceIte, Int.reduceEq, Int.reduceNe, Nat.reduceLeDiff, one, Value.cells, Int.reduceLE, Int.reduceLT, Int.reduceToNat, add_mk, reduceCtorEq, List.mem_range'_1, true_and, and_true, and_false, false_and, Nat.reduceLT, Nat.reduceLeDiff, tyF, hv]
  refine call_ok Try.call114 (ref_fields w1 c hc) ?_
  rintro _ w2 ⟨bf, rfl, hbf, hf2, hm2⟩
  simp (config := {maxSteps := 1000000}) only [↓zvD, zvU, ↓up_apply, ↓hv_apply, ↓upO_some, ↓upO_none, ↓ev_tmp, ↓ev_const, ↓ev_func, ↓ev_global, init, Nat.reduceEqDiff, Nat.reduceAdd, Nat.reduceMul, Nat.reduceSub, ↓reduceIte, Int.reduceEq, Int.reduceNe, Nat.reduceLeDiff, one, Value.cells, Int.reduceLE, Int.reduceLT, Int.reduceToNat, add_mk, reduceCtorEq, List.mem_range'_1, true_and, and_true, and_false, false_and, Nat.reduceLT, Nat.reduceLeDiff, tyF]
  refine bslice (z := .int .i64 0) (cells := (ints leastC).toArray) Try.underlying121 int64E (by omega) (by have := bcells_list (z := .int .i64 0) (ints leastC) (by intro v hv; simp [ints] at hv; obtain ⟨a, _, rfl⟩ := hv; rfl); exact this) ?_
  have hm3 := more_alloc w2 (.cells (ints leastC).toArray 2)
  have hl3 := Blk.new w2 2 (ints leastC).toArray
  generalize hq2 : w2.heap.size = b2 at hl3
  generalize w2.alloc (.cells (ints leastC).toArray 2) = w3 at hm3 hl3 ⊢
  rw [List.toList_toArray] at hl3
  simp (config := {maxSteps := 1000000}) only [↓zvD, zvU, ↓up_apply, ↓hv_apply, ↓upO_some, ↓upO_none, ↓ev_tmp, ↓ev_const, ↓ev_func, ↓ev_global, init, Nat.reduceEqDiff, Nat.reduceAdd, Nat.reduceMul, Nat.reduceSub, ↓reduceIte, Int.reduceEq, Int.reduceNe, Nat.reduceLeDiff, one, Value.cells, Int.reduceLE, Int.reduceLT, Int.reduceToNat, add_mk, reduceCtorEq, List.mem_range'_1, true_and, and_true, and_false, false_and, Nat.reduceLT, Nat.reduceLeDiff, tyF]
  refine bslice (z := .int .i64 0) (cells := (ints mostC).toArray) Try.underlying121 int64E (by omega) (by have := bcells_list (z := .int .i64 0) (ints mostC) (by intro v hv; simp [ints] at hv; obtain ⟨a, _, rfl⟩ := hv; rfl); exact this) ?_
  have hm4 := more_alloc w3 (.cells (ints mostC).toArray 2)
  have hl4 := Blk.new w3 2 (ints mostC).toArray
  generalize hq3 : w3.heap.size = b3 at hl4
  generalize w3.alloc (.cells (ints mostC).toArray 2) = w4 at hm4 hl4 ⊢
  rw [List.toList_toArray] at hl4
  simp (config := {maxSteps := 1000000}) only [↓zvD, zvU, ↓up_apply, ↓hv_apply, ↓upO_some, ↓upO_none, ↓ev_tmp, ↓ev_const, ↓ev_func, ↓ev_global, init, Nat.reduceEqDiff, Nat.reduceAdd, Nat.reduceMul, Nat.reduceSub, ↓reduceIte, Int.reduceEq, Int.reduceNe, Nat.reduceLeDiff, one, Value.cells, Int.reduceLE, Int.reduceLT, Int.reduceToNat, add_mk, reduceCtorEq, List.mem_range'_1, true_and, and_true, and_false, false_and, Nat.reduceLT, Nat.reduceLeDiff, tyF]
  have hf4 := hf2.more (hm3.trans hm4)
  have hl34 := hl3.more hm4
  refine loop_p (6 :: List.range' 13 18) (fun e w' => RightJ c w4 (e 13) w') (fun e _ => 20 - (numOf (e 13)).toNat) ?_ ?_
  · exact ⟨0, by simp only [hv_apply, up_apply, upO_some, upO_none, init, List.mem_cons, List.mem_range'_1, true_and, and_true, and_false, false_and, Nat.reduceLT, Nat.reduceLeDiff, Nat.reduceAdd, true_or, or_true, if_true, if_false, ↓reduceIte, Nat.reduceEqDiff, false_or, or_false, List.not_mem_nil, List.getElem?_cons_zero, List.getElem?_cons_succ, Option.getD_some] <;> rfl, by omega, fun i hi => by omega, More.refl _⟩
  rintro v w5 ⟨k, h13, hk, hall, hm5⟩
  simp only [hv_apply, up_apply, upO_some, upO_none, init, List.mem_cons, List.mem_range'_1, true_and, and_true, and_false, false_and, Nat.reduceLT, Nat.reduceLeDiff, Nat.reduceAdd, true_or, or_true, if_true, if_false, ↓reduceIte, Nat.reduceEqDiff, false_or, or_false, List.not_mem_nil, List.getElem?_cons_zero, List.getElem?_cons_succ, Option.getD_some] at h13
  have ek : IntKind.i64.wrap ((k : Int) + 1) = ((k + 1 : Nat) : Int) := w64 (by omega) (by omega)
  have g0 : (0 : Int) ≤ (k : Int) := by omega
  simp (config := {maxSteps := 1000000}) only [↓zvD, zvU, ↓up_apply, ↓hv_apply, ↓upO_some, ↓upO_none, ↓ev_tmp, ↓ev_const, ↓ev_func, ↓ev_global, init, Nat.reduceEqDiff, Nat.reduceAdd, Nat.reduceMul, Nat.reduceSub, ↓reduceIte, Int.reduceEq, Int.reduceNe, Nat.reduceLeDiff, one, Value.cells, Int.reduceLE, Int.reduceLT, Int.reduceToNat, add_mk, reduceCtorEq, List.mem_range'_1, true_and, and_true, and_false, false_and, Nat.reduceLT, Nat.reduceLeDiff, tyF, h13]
  have hmAll := ((hm1.trans hm2).trans (hm3.trans hm4)).trans hm5
  refine ⟨fun h9 => ?_, fun h9 => ?_⟩
  · have hk1 : k < 20 := by omega
    have r1 : w5.cell? ⟨bf, k, none⟩ = some (.int .i64 (c.getD k 0)) := by rw [(hf4.more hm5).cell]; exact ints_at (by omega)
    have r2 : w5.cell? ⟨b2, k, none⟩ = some (.int .i64 (leastC.getD k 0)) := by rw [(hl34.more hm5).cell]; exact ints_at hk1
    have r3 : w5.cell? ⟨b3, k, none⟩ = some (.int .i64 (mostC.getD k 0)) := by rw [(hl4.more hm5).cell]; exact ints_at hk1
    refine draw_name fun K hK => ?_
    refine draw_seen 12 [[], [], [0, 1], [0, 1, 2], [], [], [4, 5], [4, 5, 6], [], [], [8, 9], [8, 9, 10], [0, 1, 2, 3, 4, 5, 6, 7, 8, 9, 10, 11], [0, 1, 2, 3, 4, 5, 6, 7, 8, 9, 10, 11, 12]] (RV.look []) mixed (by kernel_rfl) (by kernel_rfl) (look_keeps _ (by simp)) ?_
    simp (config := {maxSteps := 1000000}) only [↓zvD, zvU, ↓zqD, ↓up_apply, ↓hv_apply, ↓upO_some, ↓upO_none, ↓ev_tmp, ↓ev_const, ↓ev_func, ↓ev_global, init, Nat.reduceEqDiff, Nat.reduceAdd, Nat.reduceMul, Nat.reduceSub, ↓reduceIte, Int.reduceEq, Int.reduceNe, Nat.reduceLeDiff, one, Value.cells, Int.reduceLE, Int.reduceLT, Int.reduceToNat, add_mk, reduceCtorEq, List.mem_range'_1, true_and, and_true, and_false, false_and, Nat.reduceLT, Nat.reduceLeDiff, tyF, h13, g0, h9, r1, r2, r3, Int.toNat_natCast, Nat.zero_add]
    intro w6 hm6
    refine call_ok Try.call115 (ref_in26 w6 _ _ _) ?_
    rintro _ w7 ⟨rfl, rfl⟩
    simp (config := {maxSteps := 1000000}) only [↓zvD, zvU, ↓up_apply, ↓hv_apply, ↓upO_some, ↓upO_none, ↓ev_tmp, ↓ev_const, ↓ev_func, ↓ev_global, init, Nat.reduceEqDiff, Nat.reduceAdd, Nat.reduceMul, Nat.reduceSub, ↓reduceIte, Int.reduceEq, Int.reduceNe, Nat.reduceLeDiff, one, Value.cells, Int.reduceLE, Int.reduceLT, Int.reduceToNat, add_mk, reduceCtorEq, List.mem_range'_1, true_and, and_true, and_false, false_and, Nat.reduceLT, Nat.reduceLeDiff, tyF, p_nil]
    refine hK _ _ ?_
    clear hK K
    by_cases hin : leastC.getD k 0 ≤ c.getD k 0 ∧ c.getD k 0 ≤ mostC.getD k 0
    · rw [decide_eq_true hin]
      simp (config := {maxSteps := 1000000}) only [↓zvD, zvU, ↓up_apply, ↓hv_apply, ↓upO_some, ↓upO_none, ↓ev_tmp, ↓ev_const, ↓ev_func, ↓ev_global, init, Nat.reduceEqDiff, Nat.reduceAdd, Nat.reduceMul, Nat.reduceSub, ↓reduceIte, Int.reduceEq, Int.reduceNe, Nat.reduceLeDiff, one, Value.cells, Int.reduceLE, Int.reduceLT, Int.reduceToNat, add_mk, reduceCtorEq, List.mem_range'_1, true_and, and_true, and_false, false_and, Nat.reduceLT, Nat.reduceLeDiff, tyF, h13, ek]
      refine ⟨⟨?_, k + 1, rfl, by omega, fun i hi => ?_, More.trans hm5 hm6⟩, by simp only [numOf]; omega⟩
      · repeat (first | exact Same.hv _ _ _ | refine Same.up (by simp) ?_)
      · rcases Nat.lt_or_ge i k with h1 | h1
        · exact hall i h1
        · obtain rfl : i = k := by omega
          exact hin
    · rw [decide_eq_false hin, decide_eq_false (fun h => hin (h k hk1))]
      simp (config := {maxSteps := 1000000}) only [↓zvD, zvU, ↓up_apply, ↓hv_apply, ↓upO_some, ↓upO_none, ↓ev_tmp, ↓ev_const, ↓ev_func, ↓ev_global, init, Nat.reduceEqDiff, Nat.reduceAdd, Nat.reduceMul, Nat.reduceSub, ↓reduceIte, Int.reduceEq, Int.reduceNe, Nat.reduceLeDiff, one, Value.cells, Int.reduceLE, Int.reduceLT, Int.reduceToNat, add_mk, reduceCtorEq, List.mem_range'_1, true_and, and_true, and_false, false_and, Nat.reduceLT, Nat.reduceLeDiff, tyF, h13]
      exact hmAll.trans hm6
  · obtain rfl : k = 20 := by omega
    rw [decide_eq_true (show rightM c from hall)]
    exact ⟨rfl, hmAll⟩
end Go.Proofs.Ytloiglnejffmkaa
