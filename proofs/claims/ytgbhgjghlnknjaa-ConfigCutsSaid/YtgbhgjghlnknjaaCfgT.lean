/-
  Layer 26: other thresholds.
-/
import Derived.Test.YtgbhgjghlnknjaaCfgG
namespace Go.Proofs.Ytgbhgjghlnknjaa
open Go Go.RowKit Go.Proofs.RV
set_option linter.unusedSimpArgs false
set_option linter.unusedVariables false
set_option maxRecDepth 10000
set_option maxHeartbeats 4000000

theorem cfg_flat {s : List Int} (h : s.length = 20) : Flat Try.prog 2 46 (ints s) ∧ Flat Try.prog 2 49 (ints s) := by
  rw [list20 h]
  constructor
  · refine flat_struct Try.underlying46 (by kernel_rfl) ?_
    simp only [ints, List.map_cons, List.map_nil]
    repeat (first | exact rfl | refine ⟨by decide, rfl, [_], _, rfl, by first | exact cells3.symm | exact cells2.symm, by first | exact flat_int Try.underlying3 _ | exact flat_int Try.underlying2 _, ?_⟩)
  · refine flat_struct Try.underlying49 (by kernel_rfl) ?_
    simp only [ints, List.map_cons, List.map_nil]
    repeat (first | exact rfl | refine ⟨by decide, rfl, [_], _, rfl, by first | exact cells3.symm | exact cells2.symm, by first | exact flat_int Try.underlying3 _ | exact flat_int Try.underlying2 _, ?_⟩)
open Classical in
theorem cfg_eq {a b : List Int} (ha : a.length = 20) (hb : b.length = 20) (w0 : World) (ox oy : Operand) (K : Value → Prop) :
    pureP Try.prog (do eqGuard .eql 46 ox oy (.agg (ints a).toArray) (.agg (ints b).toArray); binOp .eql 46 (.agg (ints a).toArray) (.agg (ints b).toArray)) K = K (.bool (decide (a = b))) := by
  rw [eql_flat (n := 2) (by kernel_rfl) ⟨by unfold tv; rw [Try.underlying46], by unfold tv; rw [Try.underlying46]⟩ (cfg_flat ha).1 (cfg_flat hb).1 (by omega) w0 ox oy K]
  simp only [ints_inj]
open Classical in
theorem rcfg_eq {a b : List Int} (ha : a.length = 20) (hb : b.length = 20) (w0 : World) (ox oy : Operand) (K : Value → Prop) :
    pureP Try.prog (do eqGuard .eql 49 ox oy (.agg (ints a).toArray) (.agg (ints b).toArray); binOp .eql 49 (.agg (ints a).toArray) (.agg (ints b).toArray)) K = K (.bool (decide (a = b))) := by
  rw [eql_flat (n := 2) (by kernel_rfl) ⟨by unfold tv; rw [Try.underlying49], by unfold tv; rw [Try.underlying49]⟩ (cfg_flat ha).2 (cfg_flat hb).2 (by omega) w0 ox oy K]
  simp only [ints_inj]
/-- the thresholds -/
def thr (k : Nat) : Bool := k == 4 || k == 5 || k == 12 || k == 13 || k == 16
def tunedM (a b : List Int) : Prop := rightM a ∧ rightM b ∧ ∀ k, k < 20 → thr k = false → a.getD k 0 = b.getD k 0
theorem tunedM_symm {a b : List Int} (h : tunedM a b) : tunedM b a := ⟨h.2.1, h.1, fun k h1 h2 => (h.2.2 k h1 h2).symm⟩
def tunT (a : List Int) (k : Nat) : Option Value := if k = 4 ∨ k = 5 ∨ k = 12 ∨ k = 13 then some (.int .i64 (a.getD k 0)) else none
def mixM (a b : List Int) : List Int := (List.range 20).map fun k => if thr k = true then a.getD k 0 else b.getD k 0
theorem mixM_len (a b : List Int) : (mixM a b).length = 20 := by simp [mixM]
theorem mixM_cells {a b : List Int} {cs : List Value} (hb : b.length = 20) (hl : cs.length = 20) (h : ∀ i : Nat, cs[i]? = if tunT a i = none then (ints b)[i]? else tunT a i) : cs.set 16 (.int .i64 (a.getD 16 0)) = ints (mixM a b) := by
  apply List.ext_getElem?
  intro i
  rcases Nat.lt_or_ge i 20 with hi | hi
  · have e : (ints (mixM a b))[i]? = some (.int .i64 (if thr i = true then a.getD i 0 else b.getD i 0)) := by
      simp [ints, mixM, hi]
    rw [e]
    by_cases h16 : 16 = i
    · subst h16
      rw [List.getElem?_set_self (by omega)]
      rfl
    · rw [List.getElem?_set_ne h16, h i]
      unfold tunT
      by_cases ht : i = 4 ∨ i = 5 ∨ i = 12 ∨ i = 13
      · rw [if_pos ht, if_neg (by simp)]
        have : thr i = true := by unfold thr; rcases ht with rfl | rfl | rfl | rfl <;> rfl
        rw [if_pos this]
      · rw [if_neg ht, if_pos rfl, ints_at (by omega)]
        have : ¬ thr i = true := by unfold thr; simp; omega
        rw [if_neg this]
  · rw [List.getElem?_eq_none (by simp; omega), List.getElem?_eq_none (by rw [ints_len, mixM_len]; omega)]
theorem mixM_eq {a b : List Int} (ha : a.length = 20) : a = mixM a b ↔ ∀ k, k < 20 → thr k = false → a.getD k 0 = b.getD k 0 := by
  have hx : ∀ k, k < 20 → (mixM a b).getD k 0 = if thr k = true then a.getD k 0 else b.getD k 0 := by
    intro k hk
    simp [mixM, hk]
  constructor
  · intro h k hk ht
    have := hx k hk
    rw [← h, if_neg (by simp [ht])] at this
    exact this
  · intro h
    apply List.ext_getElem
    · rw [ha, mixM_len]
    · intro i h1 h2
      have h3 := hx i (by omega)
      have e1 : a.getD i 0 = a[i] := by simp [h1]
      have e2 : (mixM a b).getD i 0 = (mixM a b)[i] := by simp [h2]
      rw [← e1, ← e2, h3]
      by_cases ht : thr i = true
      · rw [if_pos ht]
      · rw [if_neg ht]
        exact h i (by omega) (by simpa using ht)
open Classical in
theorem config_tuned (w : World) (a b : List Int) (ha : a.length = 20) (hb : b.length = 20) : Ret Try.prog 25 #[.agg (ints a).toArray, .agg (ints b).toArray] w fun v w' => v = .bool (decide (tunedM a b)) ∧ More w w' := by
  refine ret_of Try.func25 rfl (by kernel_rfl) (Nat.le_of_ble_eq_true (by kernel_rfl)) ?_
  have hm1 := more_alloc w (.cells (ints a).toArray 46)
  have hb1 := Blk.new w 46 (ints a).toArray
  have s1 := size_alloc w (.cells (ints a).toArray 46)
  simp (config := {maxSteps := 1000000}) only [↓zvD, zvU, ↓up_apply, ↓hv_apply, ↓upO_some, ↓upO_none, ↓ev_tmp, ↓ev_const, ↓ev_func, ↓ev_global, init, Nat.reduceEqDiff, Nat.reduceAdd, Nat.reduceMul, Nat.reduceSub, ↓reduceIte, Int.reduceEq, Int.reduceNe, Nat.reduceLeDiff, one, Value.cells, Int.reduceLE, Int.reduceLT, Int.reduceToNat, add_mk, reduceCtorEq, List.mem_range'_1, true_and, and_true, and_false, false_and, Nat.reduceLT, Nat.reduceLeDiff, tyF]
  have hsz := s1
  generalize w.alloc (.cells (ints a).toArray 46) = w1 at hm1 hb1 s1 ⊢
  have hm2 := more_alloc w1 (.cells (ints b).toArray 46)
  have hb2 := Blk.new w1 46 (ints b).toArray
  have s2 := size_alloc w1 (.cells (ints b).toArray 46)
  generalize w1.alloc (.cells (ints b).toArray 46) = w2 at hm2 hb2 s2 ⊢
  rw [List.toList_toArray] at hb1 hb2
  have hm := hm1.trans hm2
  have hb12 := hb1.more hm2
  generalize hpp : w.heap.size = p at hb12 s1
  generalize hqq : w1.heap.size = q at hb2 s1 s2
  rw [hpp, ← s1] at hsz
  try rw [hpp]
  try rw [hqq]
  have v1 := hb12.all_eq 20 (by rw [ints_len, ha])
  have v2 := hb2.all_eq 20 (by rw [ints_len, hb])
  simp (config := {maxSteps := 1000000}) only [↓zvD, zvU, ↓up_apply, ↓hv_apply, ↓upO_some, ↓upO_none, ↓ev_tmp, ↓ev_const, ↓ev_func, ↓ev_global, init, Nat.reduceEqDiff, Nat.reduceAdd, Nat.reduceMul, Nat.reduceSub, ↓reduceIte, Int.reduceEq, Int.reduceNe, Nat.reduceLeDiff, one, Value.cells, Int.reduceLE, Int.reduceLT, Int.reduceToNat, add_mk, reduceCtorEq, List.mem_range'_1, true_and, and_true, and_false, false_and, Nat.reduceLT, Nat.reduceLeDiff, tyF, v1, v2]
  refine call_ok Try.call27 (config_right w2 a ha) ?_
  rintro _ w3 ⟨rfl, hm3⟩
  by_cases hra : rightM a
  · rw [decide_eq_true hra]
    have v3 := (hb2.more hm3).all_eq 20 (by rw [ints_len, hb])
    simp (config := {maxSteps := 1000000}) only [↓zvD, zvU, ↓up_apply, ↓hv_apply, ↓upO_some, ↓upO_none, ↓ev_tmp, ↓ev_const, ↓ev_func, ↓ev_global, init, Nat.reduceEqDiff, Nat.reduceAdd, Nat.reduceMul, Nat.reduceSub, ↓reduceIte, Int.reduceEq, Int.reduceNe, Nat.reduceLeDiff, one, Value.cells, Int.reduceLE, Int.reduceLT, Int.reduceToNat, add_mk, reduceCtorEq, List.mem_range'_1, true_and, and_true, and_false, false_and, Nat.reduceLT, Nat.reduceLeDiff, tyF, hsz, v3]
    refine call_ok Try.call27 (config_right w3 b hb) ?_
    rintro _ w4 ⟨rfl, hm4⟩
    simp (config := {maxSteps := 1000000}) only [↓zvD, zvU, ↓up_apply, ↓hv_apply, ↓upO_some, ↓upO_none, ↓ev_tmp, ↓ev_const, ↓ev_func, ↓ev_global, init, Nat.reduceEqDiff, Nat.reduceAdd, Nat.reduceMul, Nat.reduceSub, ↓reduceIte, Int.reduceEq, Int.reduceNe, Nat.reduceLeDiff, one, Value.cells, Int.reduceLE, Int.reduceLT, Int.reduceToNat, add_mk, reduceCtorEq, List.mem_range'_1, true_and, and_true, and_false, false_and, Nat.reduceLT, Nat.reduceLeDiff, tyF]
    by_cases hrb : rightM b
    · rw [decide_eq_true hrb]
      have ha4 := hb12.more (hm3.trans hm4)
      have hb4 := hb2.more (hm3.trans hm4)
      have hpq : p < q := by omega
      have g0 : ∀ i, i < 20 → w4.cell? ⟨p, i, none⟩ = some (.int .i64 (a.getD i 0)) := fun i hi => by rw [ha4.cell]; exact ints_at (by omega)
      refine draw_name fun K hK => ?_
      refine draw_puts q q 46 (tunT a) 18 [[], [0], [], [2], [], [4], [], [6], [], [8], [0, 1], [0, 1, 10], [0, 1, 2, 3, 10, 11], [0, 1, 2, 3, 10, 11, 12], [0, 1, 2, 3, 4, 5, 10, 11, 12, 13], [0, 1, 2, 3, 4, 5, 10, 11, 12, 13, 14], [0, 1, 2, 3, 4, 5, 6, 7, 10, 11, 12, 13, 14, 15], [0, 1, 2, 3, 4, 5, 6, 7, 10, 11, 12, 13, 14, 15, 16], [0, 1, 2, 3, 4, 5, 6, 7, 8, 9, 10, 11, 12, 13, 14, 15, 16, 17], [0, 1, 2, 3, 4, 5, 6, 7, 8, 9, 10, 11, 12, 13, 14, 15, 16, 17, 18]] [(11, PutF q 46 (tunT a) 4), (13, PutF q 46 (tunT a) 5), (15, PutF q 46 (tunT a) 12), (17, PutF q 46 (tunT a) 13)] mixed (by kernel_rfl) (by kernel_rfl) (by
        intro x hx v a b hab
        simp only [List.mem_cons, List.not_mem_nil, or_false] at hx
        rcases hx with rfl | rfl | rfl | rfl <;> exact hab.keeps v) ?_
      simp (config := {maxSteps := 1000000}) only [↓zvD, zvU, ↓zqD, ↓up_apply, ↓hv_apply, ↓upO_some, ↓upO_none, ↓ev_tmp, ↓ev_const, ↓ev_func, ↓ev_global, init, Nat.reduceEqDiff, Nat.reduceAdd, Nat.reduceMul, Nat.reduceSub, ↓reduceIte, Int.reduceEq, Int.reduceNe, Nat.reduceLeDiff, one, Value.cells, Int.reduceLE, Int.reduceLT, Int.reduceToNat, add_mk, reduceCtorEq, List.mem_range'_1, true_and, and_true, and_false, false_and, Nat.reduceLT, Nat.reduceLeDiff, tyF, hsz, g0 4 (by omega), g0 5 (by omega), g0 12 (by omega), g0 13 (by omega), g0 16 (by omega), hpq]
      refine ⟨fun w8 hw8 => ?_, ?_⟩
      · obtain ⟨cs, h11, h12⟩ := hw8.blk hb4
        exact Puts.st h11 (by rw [h12, ints_len, hb]; omega) rfl (Nat.le_refl _) rfl fun w' h1 h2 h3 => ⟨h2, h3⟩
      rintro _ ⟨w8, hw8, hd8⟩
      try rw [stop1]
      simp (config := {maxSteps := 1000000}) only [↓zvD, zvU, ↓zqD, ↓up_apply, ↓hv_apply, ↓upO_some, ↓upO_none, ↓ev_tmp, ↓ev_const, ↓ev_func, ↓ev_global, init, Nat.reduceEqDiff, Nat.reduceAdd, Nat.reduceMul, Nat.reduceSub, ↓reduceIte, Int.reduceEq, Int.reduceNe, Nat.reduceLeDiff, one, Value.cells, Int.reduceLE, Int.reduceLT, Int.reduceToNat, add_mk, reduceCtorEq, List.mem_range'_1, true_and, and_true, and_false, false_and, Nat.reduceLT, Nat.reduceLeDiff, tyF, hsz, g0 4 (by omega), g0 5 (by omega), g0 12 (by omega), g0 13 (by omega), g0 16 (by omega), hpq]
      refine ⟨fun w8 hw8 => ?_, ?_⟩
      · intro _
        obtain ⟨cs, h11, h12⟩ := hw8.blk hb4
        exact Puts.st h11 (by rw [h12, ints_len, hb]; omega) rfl (Nat.le_refl _) rfl fun w' h1 h2 h3 => ⟨h2, h3⟩
      rintro _ ⟨w8, hw8, hd8⟩
      try rw [stop1]
      simp (config := {maxSteps := 1000000}) only [↓zvD, zvU, ↓zqD, ↓up_apply, ↓hv_apply, ↓upO_some, ↓upO_none, ↓ev_tmp, ↓ev_const, ↓ev_func, ↓ev_global, init, Nat.reduceEqDiff, Nat.reduceAdd, Nat.reduceMul, Nat.reduceSub, ↓reduceIte, Int.reduceEq, Int.reduceNe, Nat.reduceLeDiff, one, Value.cells, Int.reduceLE, Int.reduceLT, Int.reduceToNat, add_mk, reduceCtorEq, List.mem_range'_1, true_and, and_true, and_false, false_and, Nat.reduceLT, Nat.reduceLeDiff, tyF, hsz, g0 4 (by omega), g0 5 (by omega), g0 12 (by omega), g0 13 (by omega), g0 16 (by omega), hpq]
      refine ⟨fun w8 hw8 => ?_, ?_⟩
      · intro _
        obtain ⟨cs, h11, h12⟩ := hw8.blk hb4
        exact Puts.st h11 (by rw [h12, ints_len, hb]; omega) rfl (Nat.le_refl _) rfl fun w' h1 h2 h3 => ⟨h2, h3⟩
      rintro _ ⟨w8, hw8, hd8⟩
      try rw [stop1]
      simp (config := {maxSteps := 1000000}) only [↓zvD, zvU, ↓zqD, ↓up_apply, ↓hv_apply, ↓upO_some, ↓upO_none, ↓ev_tmp, ↓ev_const, ↓ev_func, ↓ev_global, init, Nat.reduceEqDiff, Nat.reduceAdd, Nat.reduceMul, Nat.reduceSub, ↓reduceIte, Int.reduceEq, Int.reduceNe, Nat.reduceLeDiff, one, Value.cells, Int.reduceLE, Int.reduceLT, Int.reduceToNat, add_mk, reduceCtorEq, List.mem_range'_1, true_and, and_true, and_false, false_and, Nat.reduceLT, Nat.reduceLeDiff, tyF, hsz, g0 4 (by omega), g0 5 (by omega), g0 12 (by omega), g0 13 (by omega), g0 16 (by omega), hpq]
      refine ⟨fun w8 hw8 => ?_, ?_⟩
      · intro _
        obtain ⟨cs, h11, h12⟩ := hw8.blk hb4
        exact Puts.st h11 (by rw [h12, ints_len, hb]; omega) rfl (Nat.le_refl _) rfl fun w' h1 h2 h3 => ⟨h2, h3⟩
      rintro _ ⟨w8, hw8, hd8⟩
      try rw [stop1]
      simp (config := {maxSteps := 1000000}) only [↓zvD, zvU, ↓zqD, ↓up_apply, ↓hv_apply, ↓upO_some, ↓upO_none, ↓ev_tmp, ↓ev_const, ↓ev_func, ↓ev_global, init, Nat.reduceEqDiff, Nat.reduceAdd, Nat.reduceMul, Nat.reduceSub, ↓reduceIte, Int.reduceEq, Int.reduceNe, Nat.reduceLeDiff, one, Value.cells, Int.reduceLE, Int.reduceLT, Int.reduceToNat, add_mk, reduceCtorEq, List.mem_range'_1, true_and, and_true, and_false, false_and, Nat.reduceLT, Nat.reduceLeDiff, tyF, hsz, g0 4 (by omega), g0 5 (by omega), g0 12 (by omega), g0 13 (by omega), g0 16 (by omega), hpq]
      intro w9 hw9 hd9
      obtain ⟨d4, d5, d12, d13⟩ := hd9
      obtain ⟨cs, hcs, hcl, hci⟩ := hw9.done hb4 (fun i hi => by
        unfold tunT at hi
        split at hi
        · rename_i hh
          rcases hh with rfl | rfl | rfl | rfl
          · exact d4
          · exact d5
          · exact d12
          · exact d13
        · exact absurd rfl hi)
      rw [ints_len, hb] at hcl
      refine st_cell hcs (by omega) rfl fun w10 k1 k2 => ?_
      rw [mixM_cells hb hcl hci] at k2
      refine hK _ _ ?_
      clear hK K
      have hM10 : More w w10 := Below.trans (hm.trans (hm3.trans hm4)) ((k1.below hw9.1 (Nat.le_refl _)).mono (by omega))
      have u1 := (k1.blk (Blk.below ha4 hw9.1 hpq) (by omega)).all_eq 20 (by rw [ints_len, ha])
      have u2 := k2.all_eq 20 (by rw [ints_len, mixM_len])
      have hq := cfg_eq ha (mixM_len a b) w
      skip
      simp (config := {maxSteps := 1000000}) only [↓zvD, zvU, ↓up_apply, ↓hv_apply, ↓upO_some, ↓upO_none, ↓ev_tmp, ↓ev_const, ↓ev_func, ↓ev_global, init, Nat.reduceEqDiff, Nat.reduceAdd, Nat.reduceMul, Nat.reduceSub, ↓reduceIte, Int.reduceEq, Int.reduceNe, Nat.reduceLeDiff, one, Value.cells, Int.reduceLE, Int.reduceLT, Int.reduceToNat, add_mk, reduceCtorEq, List.mem_range'_1, true_and, and_true, and_false, false_and, Nat.reduceLT, Nat.reduceLeDiff, tyF, hsz, u1, u2, hq]
      refine ⟨?_, hM10⟩
      congr 1
      exact decide_eq_decide.2 ⟨fun h => ⟨hra, hrb, (mixM_eq ha).1 h⟩, fun h => (mixM_eq ha).2 h.2.2⟩
    · rw [decide_eq_false hrb]
      have ha4 := hb12.more (hm3.trans hm4)
      have hb4 := hb2.more (hm3.trans hm4)
      have hpq : p < q := by omega
      have g0 : ∀ i, i < 20 → w4.cell? ⟨p, i, none⟩ = some (.int .i64 (a.getD i 0)) := fun i hi => by rw [ha4.cell]; exact ints_at (by omega)
      refine draw_name fun K hK => ?_
      refine draw_puts q q 46 (tunT a) 18 [[], [0], [], [2], [], [4], [], [6], [], [8], [0, 1], [0, 1, 10], [0, 1, 2, 3, 10, 11], [0, 1, 2, 3, 10, 11, 12], [0, 1, 2, 3, 4, 5, 10, 11, 12, 13], [0, 1, 2, 3, 4, 5, 10, 11, 12, 13, 14], [0, 1, 2, 3, 4, 5, 6, 7, 10, 11, 12, 13, 14, 15], [0, 1, 2, 3, 4, 5, 6, 7, 10, 11, 12, 13, 14, 15, 16], [0, 1, 2, 3, 4, 5, 6, 7, 8, 9, 10, 11, 12, 13, 14, 15, 16, 17], [0, 1, 2, 3, 4, 5, 6, 7, 8, 9, 10, 11, 12, 13, 14, 15, 16, 17, 18]] [(11, PutF q 46 (tunT a) 4), (13, PutF q 46 (tunT a) 5), (15, PutF q 46 (tunT a) 12), (17, PutF q 46 (tunT a) 13)] mixed (by kernel_rfl) (by kernel_rfl) (by
        intro x hx v a b hab
        simp only [List.mem_cons, List.not_mem_nil, or_false] at hx
        rcases hx with rfl | rfl | rfl | rfl <;> exact hab.keeps v) ?_
      simp (config := {maxSteps := 1000000}) only [↓zvD, zvU, ↓zqD, ↓up_apply, ↓hv_apply, ↓upO_some, ↓upO_none, ↓ev_tmp, ↓ev_const, ↓ev_func, ↓ev_global, init, Nat.reduceEqDiff, Nat.reduceAdd, Nat.reduceMul, Nat.reduceSub, ↓reduceIte, Int.reduceEq, Int.reduceNe, Nat.reduceLeDiff, one, Value.cells, Int.reduceLE, Int.reduceLT, Int.reduceToNat, add_mk, reduceCtorEq, List.mem_range'_1, true_and, and_true, and_false, false_and, Nat.reduceLT, Nat.reduceLeDiff, tyF, hsz, g0 4 (by omega), g0 5 (by omega), g0 12 (by omega), g0 13 (by omega), g0 16 (by omega), hpq]
      refine ⟨fun w8 hw8 => ?_, ?_⟩
      · obtain ⟨cs, h11, h12⟩ := hw8.blk hb4
        exact Puts.st h11 (by rw [h12, ints_len, hb]; omega) rfl (Nat.le_refl _) rfl fun w' h1 h2 h3 => ⟨h2, h3⟩
      rintro _ ⟨w8, hw8, hd8⟩
      try rw [stop1]
      simp (config := {maxSteps := 1000000}) only [↓zvD, zvU, ↓zqD, ↓up_apply, ↓hv_apply, ↓upO_some, ↓upO_none, ↓ev_tmp, ↓ev_const, ↓ev_func, ↓ev_global, init, Nat.reduceEqDiff, Nat.reduceAdd, Nat.reduceMul, Nat.reduceSub, ↓reduceIte, Int.reduceEq, Int.reduceNe, Nat.reduceLeDiff, one, Value.cells, Int.reduceLE, Int.reduceLT, Int.reduceToNat, add_mk, reduceCtorEq, List.mem_range'_1, true_and, and_true, and_false, false_and, Nat.reduceLT, Nat.reduceLeDiff, tyF, hsz, g0 4 (by omega), g0 5 (by omega), g0 12 (by omega), g0 13 (by omega), g0 16 (by omega), hpq]
      refine ⟨fun w8 hw8 => ?_, ?_⟩
      · intro _
        obtain ⟨cs, h11, h12⟩ := hw8.blk hb4
        exact Puts.st h11 (by rw [h12, ints_len, hb]; omega) rfl (Nat.le_refl _) rfl fun w' h1 h2 h3 => ⟨h2, h3⟩
      rintro _ ⟨w8, hw8, hd8⟩
      try rw [stop1]
      simp (config := {maxSteps := 1000000}) only [↓zvD, zvU, ↓zqD, ↓up_apply, ↓hv_apply, ↓upO_some, ↓upO_none, ↓ev_tmp, ↓ev_const, ↓ev_func, ↓ev_global, init, Nat.reduceEqDiff, Nat.reduceAdd, Nat.reduceMul, Nat.reduceSub, ↓reduceIte, Int.reduceEq, Int.reduceNe, Nat.reduceLeDiff, one, Value.cells, Int.reduceLE, Int.reduceLT, Int.reduceToNat, add_mk, reduceCtorEq, List.mem_range'_1, true_and, and_true, and_false, false_and, Nat.reduceLT, Nat.reduceLeDiff, tyF, hsz, g0 4 (by omega), g0 5 (by omega), g0 12 (by omega), g0 13 (by omega), g0 16 (by omega), hpq]
      refine ⟨fun w8 hw8 => ?_, ?_⟩
      · intro _
        obtain ⟨cs, h11, h12⟩ := hw8.blk hb4
        exact Puts.st h11 (by rw [h12, ints_len, hb]; omega) rfl (Nat.le_refl _) rfl fun w' h1 h2 h3 => ⟨h2, h3⟩
      rintro _ ⟨w8, hw8, hd8⟩
      try rw [stop1]
      simp (config := {maxSteps := 1000000}) only [↓zvD, zvU, ↓zqD, ↓up_apply, ↓hv_apply, ↓upO_some, ↓upO_none, ↓ev_tmp, ↓ev_const, ↓ev_func, ↓ev_global, init, Nat.reduceEqDiff, Nat.reduceAdd, Nat.reduceMul, Nat.reduceSub, ↓reduceIte, Int.reduceEq, Int.reduceNe, Nat.reduceLeDiff, one, Value.cells, Int.reduceLE, Int.reduceLT, Int.reduceToNat, add_mk, reduceCtorEq, List.mem_range'_1, true_and, and_true, and_false, false_and, Nat.reduceLT, Nat.reduceLeDiff, tyF, hsz, g0 4 (by omega), g0 5 (by omega), g0 12 (by omega), g0 13 (by omega), g0 16 (by omega), hpq]
      refine ⟨fun w8 hw8 => ?_, ?_⟩
      · intro _
        obtain ⟨cs, h11, h12⟩ := hw8.blk hb4
        exact Puts.st h11 (by rw [h12, ints_len, hb]; omega) rfl (Nat.le_refl _) rfl fun w' h1 h2 h3 => ⟨h2, h3⟩
      rintro _ ⟨w8, hw8, hd8⟩
      try rw [stop1]
      simp (config := {maxSteps := 1000000}) only [↓zvD, zvU, ↓zqD, ↓up_apply, ↓hv_apply, ↓upO_some, ↓upO_none, ↓ev_tmp, ↓ev_const, ↓ev_func, ↓ev_global, init, Nat.reduceEqDiff, Nat.reduceAdd, Nat.reduceMul, Nat.reduceSub, ↓reduceIte, Int.reduceEq, Int.reduceNe, Nat.reduceLeDiff, one, Value.cells, Int.reduceLE, Int.reduceLT, Int.reduceToNat, add_mk, reduceCtorEq, List.mem_range'_1, true_and, and_true, and_false, false_and, Nat.reduceLT, Nat.reduceLeDiff, tyF, hsz, g0 4 (by omega), g0 5 (by omega), g0 12 (by omega), g0 13 (by omega), g0 16 (by omega), hpq]
      intro w9 hw9 hd9
      obtain ⟨d4, d5, d12, d13⟩ := hd9
      obtain ⟨cs, hcs, hcl, hci⟩ := hw9.done hb4 (fun i hi => by
        unfold tunT at hi
        split at hi
        · rename_i hh
          rcases hh with rfl | rfl | rfl | rfl
          · exact d4
          · exact d5
          · exact d12
          · exact d13
        · exact absurd rfl hi)
      rw [ints_len, hb] at hcl
      refine st_cell hcs (by omega) rfl fun w10 k1 k2 => ?_
      rw [mixM_cells hb hcl hci] at k2
      refine hK _ _ ?_
      clear hK K
      have hM10 : More w w10 := Below.trans (hm.trans (hm3.trans hm4)) ((k1.below hw9.1 (Nat.le_refl _)).mono (by omega))
      have u1 := (k1.blk (Blk.below ha4 hw9.1 hpq) (by omega)).all_eq 20 (by rw [ints_len, ha])
      have u2 := k2.all_eq 20 (by rw [ints_len, mixM_len])
      have hq := cfg_eq ha (mixM_len a b) w
      skip
      simp (config := {maxSteps := 1000000}) only [↓zvD, zvU, ↓up_apply, ↓hv_apply, ↓upO_some, ↓upO_none, ↓ev_tmp, ↓ev_const, ↓ev_func, ↓ev_global, init, Nat.reduceEqDiff, Nat.reduceAdd, Nat.reduceMul, Nat.reduceSub, ↓reduceIte, Int.reduceEq, Int.reduceNe, Nat.reduceLeDiff, one, Value.cells, Int.reduceLE, Int.reduceLT, Int.reduceToNat, add_mk, reduceCtorEq, List.mem_range'_1, true_and, and_true, and_false, false_and, Nat.reduceLT, Nat.reduceLeDiff, tyF, hsz, u1, u2, hq]
      refine ⟨?_, hM10⟩
      rw [decide_eq_false (fun h : tunedM a b => hrb h.2.1)]
  · rw [decide_eq_false hra]
    simp (config := {maxSteps := 1000000}) only [↓zvD, zvU, ↓up_apply, ↓hv_apply, ↓upO_some, ↓upO_none, ↓ev_tmp, ↓ev_const, ↓ev_func, ↓ev_global, init, Nat.reduceEqDiff, Nat.reduceAdd, Nat.reduceMul, Nat.reduceSub, ↓reduceIte, Int.reduceEq, Int.reduceNe, Nat.reduceLeDiff, one, Value.cells, Int.reduceLE, Int.reduceLT, Int.reduceToNat, add_mk, reduceCtorEq, List.mem_range'_1, true_and, and_true, and_false, false_and, Nat.reduceLT, Nat.reduceLeDiff, tyF]
    have ha4 := hb12.more hm3
    have hb4 := hb2.more hm3
    have hpq : p < q := by omega
    have g0 : ∀ i, i < 20 → w3.cell? ⟨p, i, none⟩ = some (.int .i64 (a.getD i 0)) := fun i hi => by rw [ha4.cell]; exact ints_at (by omega)
    refine draw_name fun K hK => ?_
    refine draw_puts q q 46 (tunT a) 18 [[], [0], [], [2], [], [4], [], [6], [], [8], [0, 1], [0, 1, 10], [0, 1, 2, 3, 10, 11], [0, 1, 2, 3, 10, 11, 12], [0, 1, 2, 3, 4, 5, 10, 11, 12, 13], [0, 1, 2, 3, 4, 5, 10, 11, 12, 13, 14], [0, 1, 2, 3, 4, 5, 6, 7, 10, 11, 12, 13, 14, 15], [0, 1, 2, 3, 4, 5, 6, 7, 10, 11, 12, 13, 14, 15, 16], [0, 1, 2, 3, 4, 5, 6, 7, 8, 9, 10, 11, 12, 13, 14, 15, 16, 17], [0, 1, 2, 3, 4, 5, 6, 7, 8, 9, 10, 11, 12, 13, 14, 15, 16, 17, 18]] [(11, PutF q 46 (tunT a) 4), (13, PutF q 46 (tunT a) 5), (15, PutF q 46 (tunT a) 12), (17, PutF q 46 (tunT a) 13)] mixed (by kernel_rfl) (by kernel_rfl) (by
      intro x hx v a b hab
      simp only [List.mem_cons, List.not_mem_nil, or_false] at hx
      rcases hx with rfl | rfl | rfl | rfl <;> exact hab.keeps v) ?_
    simp (config := {maxSteps := 1000000}) only [↓zvD, zvU, ↓zqD, ↓up_apply, ↓hv_apply, ↓upO_some, ↓upO_none, ↓ev_tmp, ↓ev_const, ↓ev_func, ↓ev_global, init, Nat.reduceEqDiff, Nat.reduceAdd, Nat.reduceMul, Nat.reduceSub, ↓reduceIte, Int.reduceEq, Int.reduceNe, Nat.reduceLeDiff, one, Value.cells, Int.reduceLE, Int.reduceLT, Int.reduceToNat, add_mk, reduceCtorEq, List.mem_range'_1, true_and, and_true, and_false, false_and, Nat.reduceLT, Nat.reduceLeDiff, tyF, hsz, g0 4 (by omega), g0 5 (by omega), g0 12 (by omega), g0 13 (by omega), g0 16 (by omega), hpq]
    refine ⟨fun w8 hw8 => ?_, ?_⟩
    · obtain ⟨cs, h11, h12⟩ := hw8.blk hb4
      exact Puts.st h11 (by rw [h12, ints_len, hb]; omega) rfl (Nat.le_refl _) rfl fun w' h1 h2 h3 => ⟨h2, h3⟩
    rintro _ ⟨w8, hw8, hd8⟩
    try rw [stop1]
    simp (config := {maxSteps := 1000000}) only [↓zvD, zvU, ↓zqD, ↓up_apply, ↓hv_apply, ↓upO_some, ↓upO_none, ↓ev_tmp, ↓ev_const, ↓ev_func, ↓ev_global, init, Nat.reduceEqDiff, Nat.reduceAdd, Nat.reduceMul, Nat.reduceSub, ↓reduceIte, Int.reduceEq, Int.reduceNe, Nat.reduceLeDiff, one, Value.cells, Int.reduceLE, Int.reduceLT, Int.reduceToNat, add_mk, reduceCtorEq, List.mem_range'_1, true_and, and_true, and_false, false_and, Nat.reduceLT, Nat.reduceLeDiff, tyF, hsz, g0 4 (by omega), g0 5 (by omega), g0 12 (by omega), g0 13 (by omega), g0 16 (by omega), hpq]
    refine ⟨fun w8 hw8 => ?_, ?_⟩
    · intro _
      obtain ⟨cs, h11, h12⟩ := hw8.blk hb4
      exact Puts.st h11 (by rw [h12, ints_len, hb]; omega) rfl (Nat.le_refl _) rfl fun w' h1 h2 h3 => ⟨h2, h3⟩
    rintro _ ⟨w8, hw8, hd8⟩
    try rw [stop1]
    simp (config := {maxSteps := 1000000}) only [↓zvD, zvU, ↓zqD, ↓up_apply, ↓hv_apply, ↓upO_some, ↓upO_none, ↓ev_tmp, ↓ev_const, ↓ev_func, ↓ev_global, init, Nat.reduceEqDiff, Nat.reduceAdd, Nat.reduceMul, Nat.reduceSub, ↓reduceIte, Int.reduceEq, Int.reduceNe, Nat.reduceLeDiff, one, Value.cells, Int.reduceLE, Int.reduceLT, Int.reduceToNat, add_mk, reduceCtorEq, List.mem_range'_1, true_and, and_true, and_false, false_and, Nat.reduceLT, Nat.reduceLeDiff, tyF, hsz, g0 4 (by omega), g0 5 (by omega), g0 12 (by omega), g0 13 (by omega), g0 16 (by omega), hpq]
    refine ⟨fun w8 hw8 => ?_, ?_⟩
    · intro _
      obtain ⟨cs, h11, h12⟩ := hw8.blk hb4
      exact Puts.st h11 (by rw [h12, ints_len, hb]; omega) rfl (Nat.le_refl _) rfl fun w' h1 h2 h3 => ⟨h2, h3⟩
    rintro _ ⟨w8, hw8, hd8⟩
    try rw [stop1]
    simp (config := {maxSteps := 1000000}) only [↓zvD, zvU, ↓zqD, ↓up_apply, ↓hv_apply, ↓upO_some, ↓upO_none, ↓ev_tmp, ↓ev_const, ↓ev_func, ↓ev_global, init, Nat.reduceEqDiff, Nat.reduceAdd, Nat.reduceMul, Nat.reduceSub, ↓reduceIte, Int.reduceEq, Int.reduceNe, Nat.reduceLeDiff, one, Value.cells, Int.reduceLE, Int.reduceLT, Int.reduceToNat, add_mk, reduceCtorEq, List.mem_range'_1, true_and, and_true, and_false, false_and, Nat.reduceLT, Nat.reduceLeDiff, tyF, hsz, g0 4 (by omega), g0 5 (by omega), g0 12 (by omega), g0 13 (by omega), g0 16 (by omega), hpq]
    refine ⟨fun w8 hw8 => ?_, ?_⟩
    · intro _
      obtain ⟨cs, h11, h12⟩ := hw8.blk hb4
      exact Puts.st h11 (by rw [h12, ints_len, hb]; omega) rfl (Nat.le_refl _) rfl fun w' h1 h2 h3 => ⟨h2, h3⟩
    rintro _ ⟨w8, hw8, hd8⟩
    try rw [stop1]
    simp (config := {maxSteps := 1000000}) only [↓zvD, zvU, ↓zqD, ↓up_apply, ↓hv_apply, ↓upO_some, ↓upO_none, ↓ev_tmp, ↓ev_const, ↓ev_func, ↓ev_global, init, Nat.reduceEqDiff, Nat.reduceAdd, Nat.reduceMul, Nat.reduceSub, ↓reduceIte, Int.reduceEq, Int.reduceNe, Nat.reduceLeDiff, one, Value.cells, Int.reduceLE, Int.reduceLT, Int.reduceToNat, add_mk, reduceCtorEq, List.mem_range'_1, true_and, and_true, and_false, false_and, Nat.reduceLT, Nat.reduceLeDiff, tyF, hsz, g0 4 (by omega), g0 5 (by omega), g0 12 (by omega), g0 13 (by omega), g0 16 (by omega), hpq]
    intro w9 hw9 hd9
    obtain ⟨d4, d5, d12, d13⟩ := hd9
    obtain ⟨cs, hcs, hcl, hci⟩ := hw9.done hb4 (fun i hi => by
      unfold tunT at hi
      split at hi
      · rename_i hh
        rcases hh with rfl | rfl | rfl | rfl
        · exact d4
        · exact d5
        · exact d12
        · exact d13
      · exact absurd rfl hi)
    rw [ints_len, hb] at hcl
    refine st_cell hcs (by omega) rfl fun w10 k1 k2 => ?_
    rw [mixM_cells hb hcl hci] at k2
    refine hK _ _ ?_
    clear hK K
    have hM10 : More w w10 := Below.trans (hm.trans hm3) ((k1.below hw9.1 (Nat.le_refl _)).mono (by omega))
    have u1 := (k1.blk (Blk.below ha4 hw9.1 hpq) (by omega)).all_eq 20 (by rw [ints_len, ha])
    have u2 := k2.all_eq 20 (by rw [ints_len, mixM_len])
    have hq := cfg_eq ha (mixM_len a b) w
    skip
    simp (config := {maxSteps := 1000000}) only [↓zvD, zvU, ↓up_apply, ↓hv_apply, ↓upO_some, ↓upO_none, ↓ev_tmp, ↓ev_const, ↓ev_func, ↓ev_global, init, Nat.reduceEqDiff, Nat.reduceAdd, Nat.reduceMul, Nat.reduceSub, ↓reduceIte, Int.reduceEq, Int.reduceNe, Nat.reduceLeDiff, one, Value.cells, Int.reduceLE, Int.reduceLT, Int.reduceToNat, add_mk, reduceCtorEq, List.mem_range'_1, true_and, and_true, and_false, false_and, Nat.reduceLT, Nat.reduceLeDiff, tyF, hsz, u1, u2, hq]
    refine ⟨?_, hM10⟩
    rw [decide_eq_false (fun h : tunedM a b => hra h.1)]
end Go.Proofs.Ytgbhgjghlnknjaa
