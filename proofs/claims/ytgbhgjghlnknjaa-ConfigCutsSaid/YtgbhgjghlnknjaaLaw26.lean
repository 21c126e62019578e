/-
  Layer 26: the laws.
-/
import Derived.Test.YtgbhgjghlnknjaaCfgT
namespace Go.Proofs.Ytgbhgjghlnknjaa
open Go Go.RowKit Go.Proofs.RV
set_option linter.unusedSimpArgs false
set_option linter.unusedVariables false
set_option maxRecDepth 10000
set_option maxHeartbeats 4000000

def FldF (B : Nat) (c : List Int) (v : Value) (w : World) : Prop := ∃ b, v = .slice (some ⟨b, 0, none⟩) 20 20 ∧ B ≤ b ∧ Blk w b 2 (ints c)
theorem keepsFld (B : Nat) (c : List Int) : Keeps (FldF B c) := fun _ _ _ h ⟨b, e, hl, hB⟩ => ⟨b, e, hl, hB.more h⟩
def RTunJ (a b : List Int) (w : World) (v22 : Value) (w' : World) : Prop := ∃ k : Nat, v22 = .int .i64 k ∧ k ≤ 20 ∧ (∀ i, i < k → thr i = false → a.getD i 0 = b.getD i 0) ∧ More w w'
open Classical in
theorem ref_tuned26 (w : World) (a b : List Int) (ha : a.length = 20) (hb : b.length = 20) : Ret Try.prog 26 #[.agg (ints a).toArray, .agg (ints b).toArray] w fun v w' => v = .bool (decide (tunedM a b)) ∧ More w w' := by
  refine ret_of Try.func26 rfl (by kernel_rfl) (Nat.le_of_ble_eq_true (by kernel_rfl)) ?_
  have hm1 := more_alloc w (.cells (ints a).toArray 49)
  have hb1 := Blk.new w 49 (ints a).toArray
  have s1 := size_alloc w (.cells (ints a).toArray 49)
  simp (config := {maxSteps := 1000000}) only [↓zvD, zvU, ↓up_apply, ↓hv_apply, ↓upO_some, ↓upO_none, ↓ev_tmp, ↓ev_const, ↓ev_func, ↓ev_global, init, Nat.reduceEqDiff, Nat.reduceAdd, Nat.reduceMul, Nat.reduceSub, ↓reduceIte, Int.reduceEq, Int.reduceNe, Nat.reduceLeDiff, one, Value.cells, Int.reduceLE, Int.reduceLT, Int.reduceToNat, add_mk, reduceCtorEq, List.mem_range'_1, true_and, and_true, and_false, false_and, Nat.reduceLT, Nat.reduceLeDiff, tyF]
  have hsz := s1
  generalize w.alloc (.cells (ints a).toArray 49) = w1 at hm1 hb1 s1 ⊢
  have hm2 := more_alloc w1 (.cells (ints b).toArray 49)
  have hb2 := Blk.new w1 49 (ints b).toArray
  have s2 := size_alloc w1 (.cells (ints b).toArray 49)
  generalize w1.alloc (.cells (ints b).toArray 49) = w2 at hm2 hb2 s2 ⊢
  rw [List.toList_toArray] at hb1 hb2
  have hm := hm1.trans hm2
  have hb12 := hb1.more hm2
  generalize hpp : w.heap.size = p at hb12 s1
  generalize hqq : w1.heap.size = q at hb2 s1 s2
  rw [hpp, ← s1] at hsz
  try rw [hpp]
  try rw [hqq]
  have v1 := hb12.all_eq 20 (by rw [ints_len, ha])
  simp (config := {maxSteps := 1000000}) only [↓zvD, zvU, ↓up_apply, ↓hv_apply, ↓upO_some, ↓upO_none, ↓ev_tmp, ↓ev_const, ↓ev_func, ↓ev_global, init, Nat.reduceEqDiff, Nat.reduceAdd, Nat.reduceMul, Nat.reduceSub, ↓reduceIte, Int.reduceEq, Int.reduceNe, Nat.reduceLeDiff, one, Value.cells, Int.reduceLE, Int.reduceLT, Int.reduceToNat, add_mk, reduceCtorEq, List.mem_range'_1, true_and, and_true, and_false, false_and, Nat.reduceLT, Nat.reduceLeDiff, tyF, v1]
  refine call_ok Try.call29 (ref_right26 w2 a ha) ?_
  rintro _ w3 ⟨rfl, hm3⟩
  by_cases hra : rightM a
  rotate_left
  · rw [decide_eq_false hra, decide_eq_false (fun h : tunedM a b => hra h.1)]
    simp (config := {maxSteps := 1000000}) only [↓zvD, zvU, ↓up_apply, ↓hv_apply, ↓upO_some, ↓upO_none, ↓ev_tmp, ↓ev_const, ↓ev_func, ↓ev_global, init, Nat.reduceEqDiff, Nat.reduceAdd, Nat.reduceMul, Nat.reduceSub, ↓reduceIte, Int.reduceEq, Int.reduceNe, Nat.reduceLeDiff, one, Value.cells, Int.reduceLE, Int.reduceLT, Int.reduceToNat, add_mk, reduceCtorEq, List.mem_range'_1, true_and, and_true, and_false, false_and, Nat.reduceLT, Nat.reduceLeDiff, tyF]
    exact hm.trans hm3
  rw [decide_eq_true hra]
  have v3 := (hb2.more hm3).all_eq 20 (by rw [ints_len, hb])
  simp (config := {maxSteps := 1000000}) only [↓zvD, zvU, ↓up_apply, ↓hv_apply, ↓upO_some, ↓upO_none, ↓ev_tmp, ↓ev_const, ↓ev_func, ↓ev_global, init, Nat.reduceEqDiff, Nat.reduceAdd, Nat.reduceMul, Nat.reduceSub, ↓reduceIte, Int.reduceEq, Int.reduceNe, Nat.reduceLeDiff, one, Value.cells, Int.reduceLE, Int.reduceLT, Int.reduceToNat, add_mk, reduceCtorEq, List.mem_range'_1, true_and, and_true, and_false, false_and, Nat.reduceLT, Nat.reduceLeDiff, tyF, hsz, v3]
  refine call_ok Try.call29 (ref_right26 w3 b hb) ?_
  rintro _ w4 ⟨rfl, hm4⟩
  by_cases hrb : rightM b
  rotate_left
  · rw [decide_eq_false hrb, decide_eq_false (fun h : tunedM a b => hrb h.2.1)]
    simp (config := {maxSteps := 1000000}) only [↓zvD, zvU, ↓up_apply, ↓hv_apply, ↓upO_some, ↓upO_none, ↓ev_tmp, ↓ev_const, ↓ev_func, ↓ev_global, init, Nat.reduceEqDiff, Nat.reduceAdd, Nat.reduceMul, Nat.reduceSub, ↓reduceIte, Int.reduceEq, Int.reduceNe, Nat.reduceLeDiff, one, Value.cells, Int.reduceLE, Int.reduceLT, Int.reduceToNat, add_mk, reduceCtorEq, List.mem_range'_1, true_and, and_true, and_false, false_and, Nat.reduceLT, Nat.reduceLeDiff, tyF]
    exact (hm.trans hm3).trans hm4
  rw [decide_eq_true hrb]
  simp (config := {maxSteps := 1000000}) only [↓zvD, zvU, ↓up_apply, ↓hv_apply, ↓upO_some, ↓upO_none, ↓ev_tmp, ↓ev_const, ↓ev_func, ↓ev_global, init, Nat.reduceEqDiff, Nat.reduceAdd, Nat.reduceMul, Nat.reduceSub, ↓reduceIte, Int.reduceEq, Int.reduceNe, Nat.reduceLeDiff, one, Value.cells, Int.reduceLE, Int.reduceLT, Int.reduceToNat, add_mk, reduceCtorEq, List.mem_range'_1, true_and, and_true, and_false, false_and, Nat.reduceLT, Nat.reduceLeDiff, tyF]
  have hm24 := hm3.trans hm4
  have va := (hb12.more hm24).all_eq 20 (by rw [ints_len, ha])
  have vb := (hb2.more hm24).all_eq 20 (by rw [ints_len, hb])
  refine draw_name fun K hK => ?_
  refine draw_seen 3 [[], [0], [], [0, 1, 2], [0, 1, 2, 3], [0, 1, 2, 3, 4]] (RV.look [(1, FldF w4.heap.size a)]) mixed (by kernel_rfl) (by kernel_rfl) (look_keeps _ (by simp [keepsFld])) ?_
  simp (config := {maxSteps := 1000000}) only [↓zvD, zvU, ↓zqD, ↓up_apply, ↓hv_apply, ↓upO_some, ↓upO_none, ↓ev_tmp, ↓ev_const, ↓ev_func, ↓ev_global, init, Nat.reduceEqDiff, Nat.reduceAdd, Nat.reduceMul, Nat.reduceSub, ↓reduceIte, Int.reduceEq, Int.reduceNe, Nat.reduceLeDiff, one, Value.cells, Int.reduceLE, Int.reduceLT, Int.reduceToNat, add_mk, reduceCtorEq, List.mem_range'_1, true_and, and_true, and_false, false_and, Nat.reduceLT, Nat.reduceLeDiff, tyF, hsz, va, vb]
  refine ⟨fun w5 hm5 => call_ok Try.call56 (ref_fields w5 a ha) ?_, ?_⟩
  · rintro _ w6 ⟨b6, rfl, hb6, hf6, hm6⟩
    simp (config := {maxSteps := 1000000}) only [↓zvD, zvU, ↓zqD, ↓up_apply, ↓hv_apply, ↓upO_some, ↓upO_none, ↓ev_tmp, ↓ev_const, ↓ev_func, ↓ev_global, init, Nat.reduceEqDiff, Nat.reduceAdd, Nat.reduceMul, Nat.reduceSub, ↓reduceIte, Int.reduceEq, Int.reduceNe, Nat.reduceLeDiff, one, Value.cells, Int.reduceLE, Int.reduceLT, Int.reduceToNat, add_mk, reduceCtorEq, List.mem_range'_1, true_and, and_true, and_false, false_and, Nat.reduceLT, Nat.reduceLeDiff]
    exact ⟨hm6, b6, rfl, Nat.le_trans hm5.size hb6, hf6⟩
  rintro _ ⟨w5, hm5, b5, rfl, hl5, hf5⟩
  simp (config := {maxSteps := 1000000}) only [↓zvD, zvU, ↓zqD, ↓up_apply, ↓hv_apply, ↓upO_some, ↓upO_none, ↓ev_tmp, ↓ev_const, ↓ev_func, ↓ev_global, init, Nat.reduceEqDiff, Nat.reduceAdd, Nat.reduceMul, Nat.reduceSub, ↓reduceIte, Int.reduceEq, Int.reduceNe, Nat.reduceLeDiff, one, Value.cells, Int.reduceLE, Int.reduceLT, Int.reduceToNat, add_mk, reduceCtorEq, List.mem_range'_1, true_and, and_true, and_false, false_and, Nat.reduceLT, Nat.reduceLeDiff, tyF, hsz, va, vb]
  intro w6 hm6 hA
  obtain ⟨x, e, _, hA⟩ := hA
  cases e
  refine call_ok Try.call56 (ref_fields w6 b hb) ?_
  rintro _ w7 ⟨b6, rfl, hb7, hB, hm7⟩
  replace hA := hA.more hm7
  replace hm7 := hm6.trans hm7
  simp (config := {maxSteps := 1000000}) only [↓zvD, zvU, ↓up_apply, ↓hv_apply, ↓upO_some, ↓upO_none, ↓ev_tmp, ↓ev_const, ↓ev_func, ↓ev_global, init, Nat.reduceEqDiff, Nat.reduceAdd, Nat.reduceMul, Nat.reduceSub, ↓reduceIte, Int.reduceEq, Int.reduceNe, Nat.reduceLeDiff, one, Value.cells, Int.reduceLE, Int.reduceLT, Int.reduceToNat, add_mk, reduceCtorEq, List.mem_range'_1, true_and, and_true, and_false, false_and, Nat.reduceLT, Nat.reduceLeDiff, tyF, p_nil]
  refine hK _ _ ?_
  clear hK K
  have hM7 := (hm.trans hm24).trans hm7
  simp (config := {maxSteps := 1000000}) only [↓zvD, zvU, ↓up_apply, ↓hv_apply, ↓upO_some, ↓upO_none, ↓ev_tmp, ↓ev_const, ↓ev_func, ↓ev_global, init, Nat.reduceEqDiff, Nat.reduceAdd, Nat.reduceMul, Nat.reduceSub, ↓reduceIte, Int.reduceEq, Int.reduceNe, Nat.reduceLeDiff, one, Value.cells, Int.reduceLE, Int.reduceLT, Int.reduceToNat, add_mk, reduceCtorEq, List.mem_range'_1, true_and, and_true, and_false, false_and, Nat.reduceLT, Nat.reduceLeDiff, tyF]
  refine loop_p (7 :: List.range' 22 33) (fun e w' => RTunJ a b w7 (e 22) w') (fun e _ => 20 - (numOf (e 22)).toNat) ?_ ?_
  · exact ⟨0, by simp only [hv_apply, up_apply, upO_some, upO_none, init, List.mem_cons, List.mem_range'_1, true_and, and_true, and_false, false_and, Nat.reduceLT, Nat.reduceLeDiff, Nat.reduceAdd, true_or, or_true, if_true, if_false, ↓reduceIte, Nat.reduceEqDiff, false_or, or_false, List.not_mem_nil, List.getElem?_cons_zero, List.getElem?_cons_succ, Option.getD_some] <;> rfl, by omega, fun i hi => by omega, More.refl _⟩
  rintro v w8 ⟨k, h22, hk, hall, hm8⟩
  simp only [hv_apply, up_apply, upO_some, upO_none, init, List.mem_cons, List.mem_range'_1, true_and, and_true, and_false, false_and, Nat.reduceLT, Nat.reduceLeDiff, Nat.reduceAdd, true_or, or_true, if_true, if_false, ↓reduceIte, Nat.reduceEqDiff, false_or, or_false, List.not_mem_nil, List.getElem?_cons_zero, List.getElem?_cons_succ, Option.getD_some] at h22
  have ek : IntKind.i64.wrap ((k : Int) + 1) = ((k + 1 : Nat) : Int) := w64 (by omega) (by omega)
  have g0 : (0 : Int) ≤ (k : Int) := by omega
  simp (config := {maxSteps := 1000000}) only [↓zvD, zvU, ↓up_apply, ↓hv_apply, ↓upO_some, ↓upO_none, ↓ev_tmp, ↓ev_const, ↓ev_func, ↓ev_global, init, Nat.reduceEqDiff, Nat.reduceAdd, Nat.reduceMul, Nat.reduceSub, ↓reduceIte, Int.reduceEq, Int.reduceNe, Nat.reduceLeDiff, one, Value.cells, Int.reduceLE, Int.reduceLT, Int.reduceToNat, add_mk, reduceCtorEq, List.mem_range'_1, true_and, and_true, and_false, false_and, Nat.reduceLT, Nat.reduceLeDiff, tyF, h22]
  refine ⟨fun h9 => ?_, fun h9 => ?_⟩
  · have hk1 : k < 20 := by omega
    have r1 : w8.cell? ⟨b5, k, none⟩ = some (.int .i64 (a.getD k 0)) := by rw [(hA.more hm8).cell]; exact ints_at (by omega)
    have r2 : w8.cell? ⟨b6, k, none⟩ = some (.int .i64 (b.getD k 0)) := by rw [(hB.more hm8).cell]; exact ints_at (by omega)
    have next : ∀ w9, More w8 w9 → (thr k = false → a.getD k 0 = b.getD k 0) → RTunJ a b w7 (.int .i64 ((k + 1 : Nat) : Int)) w9 := fun w9 h9 hx =>
      ⟨k + 1, rfl, by omega, fun i hi ht => by
        rcases Nat.lt_or_ge i k with h1 | h1
        · exact hall i h1 ht
        · obtain rfl : i = k := by omega
          exact hx ht, More.trans hm8 h9⟩
    refine draw_name fun K hK => ?_
    refine draw_calm mixed (by kernel_rfl) ?_
    simp (config := {maxSteps := 1000000}) only [↓zvD, zvU, ↓zqD, ↓up_apply, ↓hv_apply, ↓upO_some, ↓upO_none, ↓ev_tmp, ↓ev_const, ↓ev_func, ↓ev_global, init, Nat.reduceEqDiff, Nat.reduceAdd, Nat.reduceMul, Nat.reduceSub, ↓reduceIte, Int.reduceEq, Int.reduceNe, Nat.reduceLeDiff, one, Value.cells, Int.reduceLE, Int.reduceLT, Int.reduceToNat, add_mk, reduceCtorEq, List.mem_range'_1, true_and, and_true, and_false, false_and, Nat.reduceLT, Nat.reduceLeDiff, tyF, h22, g0, h9, r1, r2, Int.toNat_natCast, Nat.zero_add]
    have tt : ∀ j : Nat, (k : Int) = j → thr j = true → (thr k = false → a.getD k 0 = b.getD k 0) := fun j h1 h2 h3 => by
      obtain rfl : k = j := by omega
      rw [h2] at h3; cases h3
    refine ⟨fun e => ?_, fun n4 => ⟨fun e => ?_, fun n5 => ⟨fun e => ?_, fun n12 => ⟨fun e => ?_, fun n13 => ⟨fun e => ?_, fun n16 => ?_⟩⟩⟩⟩⟩
    · intro w9 hm9
      refine hK _ _ ?_
      clear hK K
      simp (config := {maxSteps := 1000000}) only [↓zvD, zvU, ↓up_apply, ↓hv_apply, ↓upO_some, ↓upO_none, ↓ev_tmp, ↓ev_const, ↓ev_func, ↓ev_global, init, Nat.reduceEqDiff, Nat.reduceAdd, Nat.reduceMul, Nat.reduceSub, ↓reduceIte, Int.reduceEq, Int.reduceNe, Nat.reduceLeDiff, one, Value.cells, Int.reduceLE, Int.reduceLT, Int.reduceToNat, add_mk, reduceCtorEq, List.mem_range'_1, true_and, and_true, and_false, false_and, Nat.reduceLT, Nat.reduceLeDiff, tyF, h22, ek]
      refine ⟨⟨?_, next w9 hm9 (tt 4 e rfl)⟩, by simp only [numOf]; omega⟩
      repeat (first | exact Same.hv _ _ _ | refine Same.up (by simp) ?_)
    · intro w9 hm9
      refine hK _ _ ?_
      clear hK K
      simp (config := {maxSteps := 1000000}) only [↓zvD, zvU, ↓up_apply, ↓hv_apply, ↓upO_some, ↓upO_none, ↓ev_tmp, ↓ev_const, ↓ev_func, ↓ev_global, init, Nat.reduceEqDiff, Nat.reduceAdd, Nat.reduceMul, Nat.reduceSub, ↓reduceIte, Int.reduceEq, Int.reduceNe, Nat.reduceLeDiff, one, Value.cells, Int.reduceLE, Int.reduceLT, Int.reduceToNat, add_mk, reduceCtorEq, List.mem_range'_1, true_and, and_true, and_false, false_and, Nat.reduceLT, Nat.reduceLeDiff, tyF, h22, ek]
      refine ⟨⟨?_, next w9 hm9 (tt 5 e rfl)⟩, by simp only [numOf]; omega⟩
      repeat (first | exact Same.hv _ _ _ | refine Same.up (by simp) ?_)
    · intro w9 hm9
      refine hK _ _ ?_
      clear hK K
      simp (config := {maxSteps := 1000000}) only [↓zvD, zvU, ↓up_apply, ↓hv_apply, ↓upO_some, ↓upO_none, ↓ev_tmp, ↓ev_const, ↓ev_func, ↓ev_global, init, Nat.reduceEqDiff, Nat.reduceAdd, Nat.reduceMul, Nat.reduceSub, ↓reduceIte, Int.reduceEq, Int.reduceNe, Nat.reduceLeDiff, one, Value.cells, Int.reduceLE, Int.reduceLT, Int.reduceToNat, add_mk, reduceCtorEq, List.mem_range'_1, true_and, and_true, and_false, false_and, Nat.reduceLT, Nat.reduceLeDiff, tyF, h22, ek]
      refine ⟨⟨?_, next w9 hm9 (tt 12 e rfl)⟩, by simp only [numOf]; omega⟩
      repeat (first | exact Same.hv _ _ _ | refine Same.up (by simp) ?_)
    · intro w9 hm9
      refine hK _ _ ?_
      clear hK K
      simp (config := {maxSteps := 1000000}) only [↓zvD, zvU, ↓up_apply, ↓hv_apply, ↓upO_some, ↓upO_none, ↓ev_tmp, ↓ev_const, ↓ev_func, ↓ev_global, init, Nat.reduceEqDiff, Nat.reduceAdd, Nat.reduceMul, Nat.reduceSub, ↓reduceIte, Int.reduceEq, Int.reduceNe, Nat.reduceLeDiff, one, Value.cells, Int.reduceLE, Int.reduceLT, Int.reduceToNat, add_mk, reduceCtorEq, List.mem_range'_1, true_and, and_true, and_false, false_and, Nat.reduceLT, Nat.reduceLeDiff, tyF, h22, ek]
      refine ⟨⟨?_, next w9 hm9 (tt 13 e rfl)⟩, by simp only [numOf]; omega⟩
      repeat (first | exact Same.hv _ _ _ | refine Same.up (by simp) ?_)
    · intro w9 hm9
      refine hK _ _ ?_
      clear hK K
      simp (config := {maxSteps := 1000000}) only [↓zvD, zvU, ↓up_apply, ↓hv_apply, ↓upO_some, ↓upO_none, ↓ev_tmp, ↓ev_const, ↓ev_func, ↓ev_global, init, Nat.reduceEqDiff, Nat.reduceAdd, Nat.reduceMul, Nat.reduceSub, ↓reduceIte, Int.reduceEq, Int.reduceNe, Nat.reduceLeDiff, one, Value.cells, Int.reduceLE, Int.reduceLT, Int.reduceToNat, add_mk, reduceCtorEq, List.mem_range'_1, true_and, and_true, and_false, false_and, Nat.reduceLT, Nat.reduceLeDiff, tyF, h22, ek]
      refine ⟨⟨?_, next w9 hm9 (tt 16 e rfl)⟩, by simp only [numOf]; omega⟩
      repeat (first | exact Same.hv _ _ _ | refine Same.up (by simp) ?_)
    · intro w9 hm9
      refine hK _ _ ?_
      clear hK K
      by_cases hx : a.getD k 0 = b.getD k 0
      · have hd : decide (a.getD k 0 = b.getD k 0) = true := decide_eq_true hx
        simp (config := {maxSteps := 1000000}) only [↓zvD, zvU, ↓up_apply, ↓hv_apply, ↓upO_some, ↓upO_none, ↓ev_tmp, ↓ev_const, ↓ev_func, ↓ev_global, init, Nat.reduceEqDiff, Nat.reduceAdd, Nat.reduceMul, Nat.reduceSub, ↓reduceIte, Int.reduceEq, Int.reduceNe, Nat.reduceLeDiff, one, Value.cells, Int.reduceLE, Int.reduceLT, Int.reduceToNat, add_mk, reduceCtorEq, List.mem_range'_1, true_and, and_true, and_false, false_and, Nat.reduceLT, Nat.reduceLeDiff, tyF, h22, ek, hd]
        refine ⟨⟨?_, next w9 hm9 (fun _ => hx)⟩, by simp only [numOf]; omega⟩
        repeat (first | exact Same.hv _ _ _ | refine Same.up (by simp) ?_)
      · have hd : decide (a.getD k 0 = b.getD k 0) = false := decide_eq_false hx
        have ht : thr k = false := by unfold thr; simp; omega
        rw [decide_eq_false (fun h : tunedM a b => hx (h.2.2 k hk1 ht))]
        simp (config := {maxSteps := 1000000}) only [↓zvD, zvU, ↓up_apply, ↓hv_apply, ↓upO_some, ↓upO_none, ↓ev_tmp, ↓ev_const, ↓ev_func, ↓ev_global, init, Nat.reduceEqDiff, Nat.reduceAdd, Nat.reduceMul, Nat.reduceSub, ↓reduceIte, Int.reduceEq, Int.reduceNe, Nat.reduceLeDiff, one, Value.cells, Int.reduceLE, Int.reduceLT, Int.reduceToNat, add_mk, reduceCtorEq, List.mem_range'_1, true_and, and_true, and_false, false_and, Nat.reduceLT, Nat.reduceLeDiff, tyF, h22, ek, hd]
        exact (hM7.trans hm8).trans hm9
  · obtain rfl : k = 20 := by omega
    rw [decide_eq_true (show tunedM a b from ⟨hra, hrb, hall⟩)]
    exact ⟨rfl, hM7.trans hm8⟩
def littleC : List Int := [1, 1, 1, 1, 0, 0, 1, 1, 9216, 0, 0, 1, 0, 0, 0, 1, 1, 1, 0, 1]
theorem little_right : rightM littleC := by decide
theorem law26_little (w : World) : Ret Try.prog 55 #[] w fun v w' => v = .agg (ints littleC).toArray ∧ More w w' := by
  refine ret_of Try.func55 rfl (by kernel_rfl) (Nat.le_of_ble_eq_true (by kernel_rfl)) ?_
  have hm1 := more_alloc w (.cells (ints z20).toArray 46)
  have hb1 := Blk.new w 46 (ints z20).toArray
  simp (config := {maxSteps := 1000000}) only [↓zvD, zvU, ↓up_apply, ↓hv_apply, ↓upO_some, ↓upO_none, ↓ev_tmp, ↓ev_const, ↓ev_func, ↓ev_global, init, Nat.reduceEqDiff, Nat.reduceAdd, Nat.reduceMul, Nat.reduceSub, ↓reduceIte, Int.reduceEq, Int.reduceNe, Nat.reduceLeDiff, one, Value.cells, Int.reduceLE, Int.reduceLT, Int.reduceToNat, add_mk, reduceCtorEq, List.mem_range'_1, true_and, and_true, and_false, false_and, Nat.reduceLT, Nat.reduceLeDiff, tyF, zerCfg]
  generalize w.alloc (.cells (ints z20).toArray 46) = w1 at hm1 hb1 ⊢
  rw [List.toList_toArray] at hb1
  rw [build_of (ints littleC) (by kernel_rfl) zerCfg (by kernel_rfl) w1]
  simp (config := {maxSteps := 1000000}) only [↓zvD, zvU, ↓up_apply, ↓hv_apply, ↓upO_some, ↓upO_none, ↓ev_tmp, ↓ev_const, ↓ev_func, ↓ev_global, init, Nat.reduceEqDiff, Nat.reduceAdd, Nat.reduceMul, Nat.reduceSub, ↓reduceIte, Int.reduceEq, Int.reduceNe, Nat.reduceLeDiff, one, Value.cells, Int.reduceLE, Int.reduceLT, Int.reduceToNat, add_mk, reduceCtorEq, List.mem_range'_1, true_and, and_true, and_false, false_and, Nat.reduceLT, Nat.reduceLeDiff, tyF]
  refine st_all hb1 rfl rfl (by intro u hu; exact ints_one _ u (by simpa using hu)) fun w2 k1 k2 => ?_
  rw [List.toList_toArray] at k2
  have hv := k2.all_eq 20 rfl
  simp (config := {maxSteps := 1000000}) only [↓zvD, zvU, ↓up_apply, ↓hv_apply, ↓upO_some, ↓upO_none, ↓ev_tmp, ↓ev_const, ↓ev_func, ↓ev_global, init, Nat.reduceEqDiff, Nat.reduceAdd, Nat.reduceMul, Nat.reduceSub, ↓reduceIte, Int.reduceEq, Int.reduceNe, Nat.reduceLeDiff, one, Value.cells, Int.reduceLE, Int.reduceLT, Int.reduceToNat, add_mk, reduceCtorEq, List.mem_range'_1, true_and, and_true, and_false, false_and, Nat.reduceLT, Nat.reduceLeDiff, tyF, hv]
  exact k1.below hm1 (Nat.le_refl _)
theorem law26_awake (w : World) : Ret Try.prog 24 #[] w fun v w' => v = .bool true ∧ More w w' := by
  refine ret_of Try.func24 rfl (by kernel_rfl) (Nat.le_of_ble_eq_true (by kernel_rfl)) ?_
  simp (config := {maxSteps := 1000000}) only [↓zvD, zvU, ↓up_apply, ↓hv_apply, ↓upO_some, ↓upO_none, ↓ev_tmp, ↓ev_const, ↓ev_func, ↓ev_global, init, Nat.reduceEqDiff, Nat.reduceAdd, Nat.reduceMul, Nat.reduceSub, ↓reduceIte, Int.reduceEq, Int.reduceNe, Nat.reduceLeDiff, one, Value.cells, Int.reduceLE, Int.reduceLT, Int.reduceToNat, add_mk, reduceCtorEq, List.mem_range'_1, true_and, and_true, and_false, false_and, Nat.reduceLT, Nat.reduceLeDiff, tyF]
  refine call_ok Try.call55 (law26_little w) ?_
  rintro _ w1 ⟨rfl, hm1⟩
  simp (config := {maxSteps := 1000000}) only [↓zvD, zvU, ↓up_apply, ↓hv_apply, ↓upO_some, ↓upO_none, ↓ev_tmp, ↓ev_const, ↓ev_func, ↓ev_global, init, Nat.reduceEqDiff, Nat.reduceAdd, Nat.reduceMul, Nat.reduceSub, ↓reduceIte, Int.reduceEq, Int.reduceNe, Nat.reduceLeDiff, one, Value.cells, Int.reduceLE, Int.reduceLT, Int.reduceToNat, add_mk, reduceCtorEq, List.mem_range'_1, true_and, and_true, and_false, false_and, Nat.reduceLT, Nat.reduceLeDiff, tyF]
  refine call_ok Try.call28 (config_encode w1 littleC rfl) ?_
  rintro _ w2 ⟨hm2, hy, _⟩
  obtain ⟨A, cp, rfl, ho⟩ := hy little_right
  simp (config := {maxSteps := 1000000}) only [↓zvD, zvU, ↓up_apply, ↓hv_apply, ↓upO_some, ↓upO_none, ↓ev_tmp, ↓ev_const, ↓ev_func, ↓ev_global, init, Nat.reduceEqDiff, Nat.reduceAdd, Nat.reduceMul, Nat.reduceSub, ↓reduceIte, Int.reduceEq, Int.reduceNe, Nat.reduceLeDiff, one, Value.cells, Int.reduceLE, Int.reduceLT, Int.reduceToNat, add_mk, reduceCtorEq, List.mem_range'_1, true_and, and_true, and_false, false_and, Nat.reduceLT, Nat.reduceLeDiff, tyF]
  refine call_ok Try.call55 (law26_little w2) ?_
  rintro _ w3 ⟨rfl, hm3⟩
  simp (config := {maxSteps := 1000000}) only [↓zvD, zvU, ↓up_apply, ↓hv_apply, ↓upO_some, ↓upO_none, ↓ev_tmp, ↓ev_const, ↓ev_func, ↓ev_global, init, Nat.reduceEqDiff, Nat.reduceAdd, Nat.reduceMul, Nat.reduceSub, ↓reduceIte, Int.reduceEq, Int.reduceNe, Nat.reduceLeDiff, one, Value.cells, Int.reduceLE, Int.reduceLT, Int.reduceToNat, add_mk, reduceCtorEq, List.mem_range'_1, true_and, and_true, and_false, false_and, Nat.reduceLT, Nat.reduceLeDiff, tyF]
  refine call_ok Try.call27 (config_right w3 littleC rfl) ?_
  rintro _ w4 ⟨rfl, hm4⟩
  rw [decide_eq_true little_right]
  exact ⟨rfl, ((hm1.trans hm2).trans hm3).trans hm4⟩
theorem config_reads (w : World) (A : Option Addr) (l : List UInt8) (c : Nat) (hA : Bs w A l) (hc : l.length ≤ c) :
    Ret Try.prog 11 #[.slice A l.length c] w fun v w' => v = .bool true ∧ More w w' := by
  refine ret_of Try.func11 rfl (by kernel_rfl) (Nat.le_of_ble_eq_true (by kernel_rfl)) ?_
  simp (config := {maxSteps := 1000000}) only [↓zvD, zvU, ↓up_apply, ↓hv_apply, ↓upO_some, ↓upO_none, ↓ev_tmp, ↓ev_const, ↓ev_func, ↓ev_global, init, Nat.reduceEqDiff, Nat.reduceAdd, Nat.reduceMul, Nat.reduceSub, ↓reduceIte, Int.reduceEq, Int.reduceNe, Nat.reduceLeDiff, one, Value.cells, Int.reduceLE, Int.reduceLT, Int.reduceToNat, add_mk, reduceCtorEq, List.mem_range'_1, true_and, and_true, and_false, false_and, Nat.reduceLT, Nat.reduceLeDiff, tyF]
  refine call_ok Try.call24 (law26_awake w) ?_
  rintro _ w1 ⟨rfl, hm1⟩
  simp (config := {maxSteps := 1000000}) only [↓zvD, zvU, ↓up_apply, ↓hv_apply, ↓upO_some, ↓upO_none, ↓ev_tmp, ↓ev_const, ↓ev_func, ↓ev_global, init, Nat.reduceEqDiff, Nat.reduceAdd, Nat.reduceMul, Nat.reduceSub, ↓reduceIte, Int.reduceEq, Int.reduceNe, Nat.reduceLeDiff, one, Value.cells, Int.reduceLE, Int.reduceLT, Int.reduceToNat, add_mk, reduceCtorEq, List.mem_range'_1, true_and, and_true, and_false, false_and, Nat.reduceLT, Nat.reduceLeDiff, tyF]
  refine ⟨fun h60 => ?_, fun h60 => ?_⟩
  · refine call_ok Try.call24 (law26_awake w1) ?_
    rintro _ w2 ⟨rfl, hm2⟩
    simp (config := {maxSteps := 1000000}) only [↓zvD, zvU, ↓up_apply, ↓hv_apply, ↓upO_some, ↓upO_none, ↓ev_tmp, ↓ev_const, ↓ev_func, ↓ev_global, init, Nat.reduceEqDiff, Nat.reduceAdd, Nat.reduceMul, Nat.reduceSub, ↓reduceIte, Int.reduceEq, Int.reduceNe, Nat.reduceLeDiff, one, Value.cells, Int.reduceLE, Int.reduceLT, Int.reduceToNat, add_mk, reduceCtorEq, List.mem_range'_1, true_and, and_true, and_false, false_and, Nat.reduceLT, Nat.reduceLeDiff, tyF]
    exact hm1.trans hm2
  refine call_ok Try.call30 (config_decode w1 A l c (hA.more hm1) (by omega)) ?_
  rintro _ w2 ⟨rfl, hm2⟩
  have hd := decC_len l
  simp (config := {maxSteps := 1000000}) only [↓zvD, zvU, ↓up_apply, ↓hv_apply, ↓upO_some, ↓upO_none, ↓ev_tmp, ↓ev_const, ↓ev_func, ↓ev_global, init, Nat.reduceEqDiff, Nat.reduceAdd, Nat.reduceMul, Nat.reduceSub, ↓reduceIte, Int.reduceEq, Int.reduceNe, Nat.reduceLeDiff, one, Value.cells, Int.reduceLE, Int.reduceLT, Int.reduceToNat, add_mk, reduceCtorEq, List.mem_range'_1, true_and, and_true, and_false, false_and, Nat.reduceLT, Nat.reduceLeDiff, tyF, zerCfg]
  have hm3 := more_alloc w2 (.cells (ints z20).toArray 46)
  have hb3 := Blk.new w2 46 (ints z20).toArray
  generalize w2.alloc (.cells (ints z20).toArray 46) = w3 at hm3 hb3 ⊢
  rw [List.toList_toArray] at hb3
  refine st_all hb3 (by rw [List.size_toArray, ints_len, hd]) (by rw [ints_len]; rfl) (by intro u hu; exact ints_one _ u (by simpa using hu)) fun w4 j1 j2 => ?_
  rw [List.toList_toArray] at j2
  have hm12 := hm1.trans hm2
  have hm4 : More w w4 := j1.below (hm12.trans hm3) hm12.size
  refine call_ok Try.call32 (ref_decode26 w4 A l c (hA.more hm4) hc) ?_
  rintro _ w5 ⟨rfl, hm5⟩
  have z49 : zer Try.prog 49 = some (.agg (ints z20).toArray) := by rw [zer49]; rfl
  simp (config := {maxSteps := 1000000}) only [↓zvD, zvU, ↓up_apply, ↓hv_apply, ↓upO_some, ↓upO_none, ↓ev_tmp, ↓ev_const, ↓ev_func, ↓ev_global, init, Nat.reduceEqDiff, Nat.reduceAdd, Nat.reduceMul, Nat.reduceSub, ↓reduceIte, Int.reduceEq, Int.reduceNe, Nat.reduceLeDiff, one, Value.cells, Int.reduceLE, Int.reduceLT, Int.reduceToNat, add_mk, reduceCtorEq, List.mem_range'_1, true_and, and_true, and_false, false_and, Nat.reduceLT, Nat.reduceLeDiff, tyF, z49]
  have hm6 := more_alloc w5 (.cells (ints z20).toArray 49)
  have hb6 := Blk.new w5 49 (ints z20).toArray
  generalize w5.alloc (.cells (ints z20).toArray 49) = w6 at hm6 hb6 ⊢
  rw [List.toList_toArray] at hb6
  refine st_all hb6 (by rw [List.size_toArray, ints_len, hd]) (by rw [ints_len]; rfl) (by intro u hu; exact ints_one _ u (by simpa using hu)) fun w7 i1 i2 => ?_
  rw [List.toList_toArray] at i2
  have hm7 : More w w7 := i1.below ((hm4.trans hm5).trans hm6) (hm4.trans hm5).size
  have s2 := hm2.size
  have j3 := i1.blk ((j2.more hm5).more hm6) (by have := j2.lt; have := hm5.size; omega)
  have v1 := j3.all_eq 20 (by rw [ints_len, hd])
  have v2 := i2.all_eq 20 (by rw [ints_len, hd])
  have hq := rcfg_eq hd hd w
  simp (config := {maxSteps := 1000000}) only [↓zvD, zvU, ↓up_apply, ↓hv_apply, ↓upO_some, ↓upO_none, ↓ev_tmp, ↓ev_const, ↓ev_func, ↓ev_global, init, Nat.reduceEqDiff, Nat.reduceAdd, Nat.reduceMul, Nat.reduceSub, ↓reduceIte, Int.reduceEq, Int.reduceNe, Nat.reduceLeDiff, one, Value.cells, Int.reduceLE, Int.reduceLT, Int.reduceToNat, add_mk, reduceCtorEq, List.mem_range'_1, true_and, and_true, and_false, false_and, Nat.reduceLT, Nat.reduceLeDiff, tyF, v1, v2, hq]
  exact hm7
end Go.Proofs.Ytgbhgjghlnknjaa
