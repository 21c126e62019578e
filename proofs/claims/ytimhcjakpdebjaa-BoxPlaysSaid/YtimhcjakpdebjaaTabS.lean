/-
  Layer 21: all prefixes of a table, in order.
-/
import Derived.Test.YtimhcjakpdebjaaTabG
import Derived.Test.YtimhcjakpdebjaaShelf
namespace Go.Proofs.Ytimhcjakpdebjaa
open Go Go.RowKit Go.Proofs.RV
set_option linter.unusedSimpArgs false
set_option linter.unusedVariables false
set_option maxRecDepth 10000
set_option maxHeartbeats 4000000
theorem table_cmp_int (w : World) (p q : PrefM) (hp : p.addr.length = 7) (hq : q.addr.length = 7) : Ret Try.prog 47 #[.agg p.cells.toArray, .agg q.cells.toArray] w fun v w' => v = .int .i64 (Lib.compareBytes (pkey p) (pkey q)) ∧ MoreD w w' := by
  refine ret_of Try.func47 rfl (by kernel_rfl) (Nat.le_of_ble_eq_true (by kernel_rfl)) ?_
  have hm1 := MoreD.alloc w (.cells p.cells.toArray 24)
  have hb1 := Blk.new w 24 p.cells.toArray
  have s1 := size_alloc w (.cells p.cells.toArray 24)
  simp (config := {maxSteps := 1000000}) only [↓zvN, zvU, ↓up_apply, ↓hv_apply, ↓upO_some, ↓upO_none, ↓ev_tmp, ↓ev_const, ↓ev_func, ↓ev_global, init, Nat.reduceEqDiff, Nat.reduceAdd, Nat.reduceMul, Nat.reduceSub, ↓reduceIte, Int.reduceEq, Int.reduceNe, Nat.reduceLeDiff, one, Value.cells, Int.reduceLE, Int.reduceLT, Int.reduceToNat, add_mk, reduceCtorEq, List.mem_range'_1, true_and, and_true, and_false, false_and, Nat.reduceLT, Nat.reduceLeDiff, tyF]
  have hsz := s1
  generalize w.alloc (.cells p.cells.toArray 24) = w1 at hm1 hb1 s1 ⊢
  have hm2 := MoreD.alloc w1 (.cells q.cells.toArray 24)
  have hb2 := Blk.new w1 24 q.cells.toArray
  generalize w1.alloc (.cells q.cells.toArray 24) = w2 at hm2 hb2 ⊢
  rw [s1] at hb2
  rw [List.toList_toArray] at hb1 hb2
  have hcl : ∀ {x : PrefM}, x.addr.length = 7 → x.cells.length = 8 := fun h => by simp [PrefM.cells, h]
  have v1 := (hb1.more hm2.1).all_eq 8 (hcl hp)
  have v2 := hb2.all_eq 8 (hcl hq)
  have k1 := pkey_len hp
  have k2 := pkey_len hq
  refine draw_name fun K hK => ?_
  refine draw_seenD 3 [[], [0], [], [0, 1, 2], [0, 1, 2, 3], [0, 1, 2, 3, 4]] [(1, RV.BsF (pkey p))] mixed (by kernel_rfl) (by kernel_rfl) (by simp; exact keepsBD _) ?_
  simp (config := {maxSteps := 1000000}) only [↓zvD, zvU, ↓zqD, ↓up_apply, ↓hv_apply, ↓upO_some, ↓upO_none, ↓ev_tmp, ↓ev_const, ↓ev_func, ↓ev_global, init, Nat.reduceEqDiff, Nat.reduceAdd, Nat.reduceMul, Nat.reduceSub, ↓reduceIte, Int.reduceEq, Int.reduceNe, Nat.reduceLeDiff, one, Value.cells, Int.reduceLE, Int.reduceLT, Int.reduceToNat, add_mk, reduceCtorEq, List.mem_range'_1, true_and, and_true, and_false, false_and, Nat.reduceLT, Nat.reduceLeDiff, tyF, hsz, s1, v1, v2]
  refine ⟨fun w3 hm3 => call_ok Try.call44 (table_bytesOf w3 p hp) ?_, ?_⟩
  · rintro _ w4 ⟨g, c, rfl, hg, hB, hc, hm4⟩
    simp (config := {maxSteps := 1000000}) only [↓zvD, zvU, ↓zqD, ↓up_apply, ↓hv_apply, ↓upO_some, ↓upO_none, ↓ev_tmp, ↓ev_const, ↓ev_func, ↓ev_global, init, Nat.reduceEqDiff, Nat.reduceAdd, Nat.reduceMul, Nat.reduceSub, ↓reduceIte, Int.reduceEq, Int.reduceNe, Nat.reduceLeDiff, one, Value.cells, Int.reduceLE, Int.reduceLT, Int.reduceToNat, add_mk, reduceCtorEq, List.mem_range'_1, true_and, and_true, and_false, false_and, Nat.reduceLT, Nat.reduceLeDiff]
    exact ⟨hm4, some ⟨g, 0, none⟩, c, by rw [k1], hB⟩
  rintro _ ⟨w3, hm3, A3, c3, rfl, _⟩
  simp (config := {maxSteps := 1000000}) only [↓zvD, zvU, ↓zqD, ↓up_apply, ↓hv_apply, ↓upO_some, ↓upO_none, ↓ev_tmp, ↓ev_const, ↓ev_func, ↓ev_global, init, Nat.reduceEqDiff, Nat.reduceAdd, Nat.reduceMul, Nat.reduceSub, ↓reduceIte, Int.reduceEq, Int.reduceNe, Nat.reduceLeDiff, one, Value.cells, Int.reduceLE, Int.reduceLT, Int.reduceToNat, add_mk, reduceCtorEq, List.mem_range'_1, true_and, and_true, and_false, false_and, Nat.reduceLT, Nat.reduceLeDiff, tyF, hsz, s1, v1, v2]
  intro w4 hm4 hB4
  obtain ⟨A3', c3', e, hB4⟩ := hB4
  cases e
  have v2 := (hb2.more hm4.1).all_eq 8 (hcl hq)
  try simp (config := {maxSteps := 1000000}) only [↓zvD, zvU, ↓zqD, ↓up_apply, ↓hv_apply, ↓upO_some, ↓upO_none, ↓ev_tmp, ↓ev_const, ↓ev_func, ↓ev_global, init, Nat.reduceEqDiff, Nat.reduceAdd, Nat.reduceMul, Nat.reduceSub, ↓reduceIte, Int.reduceEq, Int.reduceNe, Nat.reduceLeDiff, one, Value.cells, Int.reduceLE, Int.reduceLT, Int.reduceToNat, add_mk, reduceCtorEq, List.mem_range'_1, true_and, and_true, and_false, false_and, Nat.reduceLT, Nat.reduceLeDiff, tyF, v2]
  refine call_ok Try.call44 (table_bytesOf w4 q hq) ?_
  rintro _ w5 ⟨g5, c5, rfl, hg5, hB5, hc5, hm5⟩
  simp (config := {maxSteps := 1000000}) only [↓zvD, zvU, ↓up_apply, ↓hv_apply, ↓upO_some, ↓upO_none, ↓ev_tmp, ↓ev_const, ↓ev_func, ↓ev_global, init, Nat.reduceEqDiff, Nat.reduceAdd, Nat.reduceMul, Nat.reduceSub, ↓reduceIte, Int.reduceEq, Int.reduceNe, Nat.reduceLeDiff, one, Value.cells, Int.reduceLE, Int.reduceLT, Int.reduceToNat, add_mk, reduceCtorEq, List.mem_range'_1, true_and, and_true, and_false, false_and, Nat.reduceLT, Nat.reduceLeDiff, tyF, p_nil]
  have hcc := bytes_compare w5 A3 (pkey p) c3 (some ⟨g5, 0, none⟩) (pkey q) c5 (hB4.more hm5.1) hB5
  rw [k2] at hcc
  refine call_ok Try.call43 hcc ?_
  rintro _ w6 ⟨rfl, rfl⟩
  simp (config := {maxSteps := 1000000}) only [↓zvD, zvU, ↓up_apply, ↓hv_apply, ↓upO_some, ↓upO_none, ↓ev_tmp, ↓ev_const, ↓ev_func, ↓ev_global, init, Nat.reduceEqDiff, Nat.reduceAdd, Nat.reduceMul, Nat.reduceSub, ↓reduceIte, Int.reduceEq, Int.reduceNe, Nat.reduceLeDiff, one, Value.cells, Int.reduceLE, Int.reduceLT, Int.reduceToNat, add_mk, reduceCtorEq, List.mem_range'_1, true_and, and_true, and_false, false_and, Nat.reduceLT, Nat.reduceLeDiff, tyF, p_nil]
  refine hK _ _ ?_
  simp (config := {maxSteps := 1000000}) only [↓zvD, zvU, ↓up_apply, ↓hv_apply, ↓upO_some, ↓upO_none, ↓ev_tmp, ↓ev_const, ↓ev_func, ↓ev_global, init, Nat.reduceEqDiff, Nat.reduceAdd, Nat.reduceMul, Nat.reduceSub, ↓reduceIte, Int.reduceEq, Int.reduceNe, Nat.reduceLeDiff, one, Value.cells, Int.reduceLE, Int.reduceLT, Int.reduceToNat, add_mk, reduceCtorEq, List.mem_range'_1, true_and, and_true, and_false, false_and, Nat.reduceLT, Nat.reduceLeDiff, tyF, p_nil]
  exact ⟨rfl, ((hm1.trans hm2).trans hm4).trans hm5⟩
theorem table_cmp_string (w : World) (p q : PrefM) (hp : p.addr.length = 7) (hq : q.addr.length = 7) : Ret Try.prog 49 #[.agg p.cells.toArray, .agg q.cells.toArray] w fun v w' => v = .int .i64 (Lib.compareBytes (pkey p) (pkey q)) ∧ MoreD w w' := by
  refine ret_of Try.func49 rfl (by kernel_rfl) (Nat.le_of_ble_eq_true (by kernel_rfl)) ?_
  have hm1 := MoreD.alloc w (.cells p.cells.toArray 24)
  have hb1 := Blk.new w 24 p.cells.toArray
  have s1 := size_alloc w (.cells p.cells.toArray 24)
  simp (config := {maxSteps := 1000000}) only [↓zvN, zvU, ↓up_apply, ↓hv_apply, ↓upO_some, ↓upO_none, ↓ev_tmp, ↓ev_const, ↓ev_func, ↓ev_global, init, Nat.reduceEqDiff, Nat.reduceAdd, Nat.reduceMul, Nat.reduceSub, ↓reduceIte, Int.reduceEq, Int.reduceNe, Nat.reduceLeDiff, one, Value.cells, Int.reduceLE, Int.reduceLT, Int.reduceToNat, add_mk, reduceCtorEq, List.mem_range'_1, true_and, and_true, and_false, false_and, Nat.reduceLT, Nat.reduceLeDiff, tyF]
  have hsz := s1
  generalize w.alloc (.cells p.cells.toArray 24) = w1 at hm1 hb1 s1 ⊢
  have hm2 := MoreD.alloc w1 (.cells q.cells.toArray 24)
  have hb2 := Blk.new w1 24 q.cells.toArray
  generalize w1.alloc (.cells q.cells.toArray 24) = w2 at hm2 hb2 ⊢
  rw [s1] at hb2
  rw [List.toList_toArray] at hb1 hb2
  have hcl : ∀ {x : PrefM}, x.addr.length = 7 → x.cells.length = 8 := fun h => by simp [PrefM.cells, h]
  have v1 := (hb1.more hm2.1).all_eq 8 (hcl hp)
  have v2 := hb2.all_eq 8 (hcl hq)
  have k1 := pkey_len hp
  have k2 := pkey_len hq
  refine draw_name fun K hK => ?_
  refine draw_seenD 3 [[], [0], [], [0, 1, 2], [0, 1, 2, 3], [0, 1, 2, 3, 4]] [(1, RV.BsF (pkey p))] mixed (by kernel_rfl) (by kernel_rfl) (by simp; exact keepsBD _) ?_
  simp (config := {maxSteps := 1000000}) only [↓zvD, zvU, ↓zqD, ↓up_apply, ↓hv_apply, ↓upO_some, ↓upO_none, ↓ev_tmp, ↓ev_const, ↓ev_func, ↓ev_global, init, Nat.reduceEqDiff, Nat.reduceAdd, Nat.reduceMul, Nat.reduceSub, ↓reduceIte, Int.reduceEq, Int.reduceNe, Nat.reduceLeDiff, one, Value.cells, Int.reduceLE, Int.reduceLT, Int.reduceToNat, add_mk, reduceCtorEq, List.mem_range'_1, true_and, and_true, and_false, false_and, Nat.reduceLT, Nat.reduceLeDiff, tyF, hsz, s1, v1, v2]
  refine ⟨fun w3 hm3 => call_ok Try.call44 (table_bytesOf w3 p hp) ?_, ?_⟩
  · rintro _ w4 ⟨g, c, rfl, hg, hB, hc, hm4⟩
    simp (config := {maxSteps := 1000000}) only [↓zvD, zvU, ↓zqD, ↓up_apply, ↓hv_apply, ↓upO_some, ↓upO_none, ↓ev_tmp, ↓ev_const, ↓ev_func, ↓ev_global, init, Nat.reduceEqDiff, Nat.reduceAdd, Nat.reduceMul, Nat.reduceSub, ↓reduceIte, Int.reduceEq, Int.reduceNe, Nat.reduceLeDiff, one, Value.cells, Int.reduceLE, Int.reduceLT, Int.reduceToNat, add_mk, reduceCtorEq, List.mem_range'_1, true_and, and_true, and_false, false_and, Nat.reduceLT, Nat.reduceLeDiff]
    exact ⟨hm4, some ⟨g, 0, none⟩, c, by rw [k1], hB⟩
  rintro _ ⟨w3, hm3, A3, c3, rfl, _⟩
  simp (config := {maxSteps := 1000000}) only [↓zvD, zvU, ↓zqD, ↓up_apply, ↓hv_apply, ↓upO_some, ↓upO_none, ↓ev_tmp, ↓ev_const, ↓ev_func, ↓ev_global, init, Nat.reduceEqDiff, Nat.reduceAdd, Nat.reduceMul, Nat.reduceSub, ↓reduceIte, Int.reduceEq, Int.reduceNe, Nat.reduceLeDiff, one, Value.cells, Int.reduceLE, Int.reduceLT, Int.reduceToNat, add_mk, reduceCtorEq, List.mem_range'_1, true_and, and_true, and_false, false_and, Nat.reduceLT, Nat.reduceLeDiff, tyF, hsz, s1, v1, v2]
  intro w4 hm4 hB4
  obtain ⟨A3', c3', e, hB4⟩ := hB4
  cases e
  have v2 := (hb2.more hm4.1).all_eq 8 (hcl hq)
  try simp (config := {maxSteps := 1000000}) only [↓zvD, zvU, ↓zqD, ↓up_apply, ↓hv_apply, ↓upO_some, ↓upO_none, ↓ev_tmp, ↓ev_const, ↓ev_func, ↓ev_global, init, Nat.reduceEqDiff, Nat.reduceAdd, Nat.reduceMul, Nat.reduceSub, ↓reduceIte, Int.reduceEq, Int.reduceNe, Nat.reduceLeDiff, one, Value.cells, Int.reduceLE, Int.reduceLT, Int.reduceToNat, add_mk, reduceCtorEq, List.mem_range'_1, true_and, and_true, and_false, false_and, Nat.reduceLT, Nat.reduceLeDiff, tyF, v2]
  refine call_ok Try.call44 (table_bytesOf w4 q hq) ?_
  rintro _ w5 ⟨g5, c5, rfl, hg5, hB5, hc5, hm5⟩
  simp (config := {maxSteps := 1000000}) only [↓zvD, zvU, ↓up_apply, ↓hv_apply, ↓upO_some, ↓upO_none, ↓ev_tmp, ↓ev_const, ↓ev_func, ↓ev_global, init, Nat.reduceEqDiff, Nat.reduceAdd, Nat.reduceMul, Nat.reduceSub, ↓reduceIte, Int.reduceEq, Int.reduceNe, Nat.reduceLeDiff, one, Value.cells, Int.reduceLE, Int.reduceLT, Int.reduceToNat, add_mk, reduceCtorEq, List.mem_range'_1, true_and, and_true, and_false, false_and, Nat.reduceLT, Nat.reduceLeDiff, tyF, p_nil]
  have hcc := bytes_compare w5 A3 (pkey p) c3 (some ⟨g5, 0, none⟩) (pkey q) c5 (hB4.more hm5.1) hB5
  rw [k2] at hcc
  refine call_ok Try.call43 hcc ?_
  rintro _ w6 ⟨rfl, rfl⟩
  simp (config := {maxSteps := 1000000}) only [↓zvD, zvU, ↓up_apply, ↓hv_apply, ↓upO_some, ↓upO_none, ↓ev_tmp, ↓ev_const, ↓ev_func, ↓ev_global, init, Nat.reduceEqDiff, Nat.reduceAdd, Nat.reduceMul, Nat.reduceSub, ↓reduceIte, Int.reduceEq, Int.reduceNe, Nat.reduceLeDiff, one, Value.cells, Int.reduceLE, Int.reduceLT, Int.reduceToNat, add_mk, reduceCtorEq, List.mem_range'_1, true_and, and_true, and_false, false_and, Nat.reduceLT, Nat.reduceLeDiff, tyF, p_nil]
  refine hK _ _ ?_
  simp (config := {maxSteps := 1000000}) only [↓zvD, zvU, ↓up_apply, ↓hv_apply, ↓upO_some, ↓upO_none, ↓ev_tmp, ↓ev_const, ↓ev_func, ↓ev_global, init, Nat.reduceEqDiff, Nat.reduceAdd, Nat.reduceMul, Nat.reduceSub, ↓reduceIte, Int.reduceEq, Int.reduceNe, Nat.reduceLeDiff, one, Value.cells, Int.reduceLE, Int.reduceLT, Int.reduceToNat, add_mk, reduceCtorEq, List.mem_range'_1, true_and, and_true, and_false, false_and, Nat.reduceLT, Nat.reduceLeDiff, tyF, p_nil]
  exact ⟨rfl, ((hm1.trans hm2).trans hm4).trans hm5⟩
theorem table_cmp_box (w : World) (p q : PrefM) (hp : p.addr.length = 7) (hq : q.addr.length = 7) : Ret Try.prog 70 #[.agg p.cells.toArray, .agg q.cells.toArray] w fun v w' => v = .int .i64 (Lib.compareBytes (pkey p) (pkey q)) ∧ MoreD w w' := by
  refine ret_of Try.func70 rfl (by kernel_rfl) (Nat.le_of_ble_eq_true (by kernel_rfl)) ?_
  have hm1 := MoreD.alloc w (.cells p.cells.toArray 24)
  have hb1 := Blk.new w 24 p.cells.toArray
  have s1 := size_alloc w (.cells p.cells.toArray 24)
  simp (config := {maxSteps := 1000000}) only [↓zvN, zvU, ↓up_apply, ↓hv_apply, ↓upO_some, ↓upO_none, ↓ev_tmp, ↓ev_const, ↓ev_func, ↓ev_global, init, Nat.reduceEqDiff, Nat.reduceAdd, Nat.reduceMul, Nat.reduceSub, ↓reduceIte, Int.reduceEq, Int.reduceNe, Nat.reduceLeDiff, one, Value.cells, Int.reduceLE, Int.reduceLT, Int.reduceToNat, add_mk, reduceCtorEq, List.mem_range'_1, true_and, and_true, and_false, false_and, Nat.reduceLT, Nat.reduceLeDiff, tyF]
  have hsz := s1
  generalize w.alloc (.cells p.cells.toArray 24) = w1 at hm1 hb1 s1 ⊢
  have hm2 := MoreD.alloc w1 (.cells q.cells.toArray 24)
  have hb2 := Blk.new w1 24 q.cells.toArray
  generalize w1.alloc (.cells q.cells.toArray 24) = w2 at hm2 hb2 ⊢
  rw [s1] at hb2
  rw [List.toList_toArray] at hb1 hb2
  have hcl : ∀ {x : PrefM}, x.addr.length = 7 → x.cells.length = 8 := fun h => by simp [PrefM.cells, h]
  have v1 := (hb1.more hm2.1).all_eq 8 (hcl hp)
  have v2 := hb2.all_eq 8 (hcl hq)
  have k1 := pkey_len hp
  have k2 := pkey_len hq
  refine draw_name fun K hK => ?_
  refine draw_seenD 3 [[], [0], [], [0, 1, 2], [0, 1, 2, 3], [0, 1, 2, 3, 4]] [(1, RV.BsF (pkey p))] mixed (by kernel_rfl) (by kernel_rfl) (by simp; exact keepsBD _) ?_
  simp (config := {maxSteps := 1000000}) only [↓zvD, zvU, ↓zqD, ↓up_apply, ↓hv_apply, ↓upO_some, ↓upO_none, ↓ev_tmp, ↓ev_const, ↓ev_func, ↓ev_global, init, Nat.reduceEqDiff, Nat.reduceAdd, Nat.reduceMul, Nat.reduceSub, ↓reduceIte, Int.reduceEq, Int.reduceNe, Nat.reduceLeDiff, one, Value.cells, Int.reduceLE, Int.reduceLT, Int.reduceToNat, add_mk, reduceCtorEq, List.mem_range'_1, true_and, and_true, and_false, false_and, Nat.reduceLT, Nat.reduceLeDiff, tyF, hsz, s1, v1, v2]
  refine ⟨fun w3 hm3 => call_ok Try.call44 (table_bytesOf w3 p hp) ?_, ?_⟩
  · rintro _ w4 ⟨g, c, rfl, hg, hB, hc, hm4⟩
    simp (config := {maxSteps := 1000000}) only [↓zvD, zvU, ↓zqD, ↓up_apply, ↓hv_apply, ↓upO_some, ↓upO_none, ↓ev_tmp, ↓ev_const, ↓ev_func, ↓ev_global, init, Nat.reduceEqDiff, Nat.reduceAdd, Nat.reduceMul, Nat.reduceSub, ↓reduceIte, Int.reduceEq, Int.reduceNe, Nat.reduceLeDiff, one, Value.cells, Int.reduceLE, Int.reduceLT, Int.reduceToNat, add_mk, reduceCtorEq, List.mem_range'_1, true_and, and_true, and_false, false_and, Nat.reduceLT, Nat.reduceLeDiff]
    exact ⟨hm4, some ⟨g, 0, none⟩, c, by rw [k1], hB⟩
  rintro _ ⟨w3, hm3, A3, c3, rfl, _⟩
  simp (config := {maxSteps := 1000000}) only [↓zvD, zvU, ↓zqD, ↓up_apply, ↓hv_apply, ↓upO_some, ↓upO_none, ↓ev_tmp, ↓ev_const, ↓ev_func, ↓ev_global, init, Nat.reduceEqDiff, Nat.reduceAdd, Nat.reduceMul, Nat.reduceSub, ↓reduceIte, Int.reduceEq, Int.reduceNe, Nat.reduceLeDiff, one, Value.cells, Int.reduceLE, Int.reduceLT, Int.reduceToNat, add_mk, reduceCtorEq, List.mem_range'_1, true_and, and_true, and_false, false_and, Nat.reduceLT, Nat.reduceLeDiff, tyF, hsz, s1, v1, v2]
  intro w4 hm4 hB4
  obtain ⟨A3', c3', e, hB4⟩ := hB4
  cases e
  have v2 := (hb2.more hm4.1).all_eq 8 (hcl hq)
  try simp (config := {maxSteps := 1000000}) only [↓zvD, zvU, ↓zqD, ↓up_apply, ↓hv_apply, ↓upO_some, ↓upO_none, ↓ev_tmp, ↓ev_const, ↓ev_func, ↓ev_global, init, Nat.reduceEqDiff, Nat.reduceAdd, Nat.reduceMul, Nat.reduceSub, ↓reduceIte, Int.reduceEq, Int.reduceNe, Nat.reduceLeDiff, one, Value.cells, Int.reduceLE, Int.reduceLT, Int.reduceToNat, add_mk, reduceCtorEq, List.mem_range'_1, true_and, and_true, and_false, false_and, Nat.reduceLT, Nat.reduceLeDiff, tyF, v2]
  refine call_ok Try.call44 (table_bytesOf w4 q hq) ?_
  rintro _ w5 ⟨g5, c5, rfl, hg5, hB5, hc5, hm5⟩
  simp (config := {maxSteps := 1000000}) only [↓zvD, zvU, ↓up_apply, ↓hv_apply, ↓upO_some, ↓upO_none, ↓ev_tmp, ↓ev_const, ↓ev_func, ↓ev_global, init, Nat.reduceEqDiff, Nat.reduceAdd, Nat.reduceMul, Nat.reduceSub, ↓reduceIte, Int.reduceEq, Int.reduceNe, Nat.reduceLeDiff, one, Value.cells, Int.reduceLE, Int.reduceLT, Int.reduceToNat, add_mk, reduceCtorEq, List.mem_range'_1, true_and, and_true, and_false, false_and, Nat.reduceLT, Nat.reduceLeDiff, tyF, p_nil]
  have hcc := bytes_compare w5 A3 (pkey p) c3 (some ⟨g5, 0, none⟩) (pkey q) c5 (hB4.more hm5.1) hB5
  rw [k2] at hcc
  refine call_ok Try.call43 hcc ?_
  rintro _ w6 ⟨rfl, rfl⟩
  simp (config := {maxSteps := 1000000}) only [↓zvD, zvU, ↓up_apply, ↓hv_apply, ↓upO_some, ↓upO_none, ↓ev_tmp, ↓ev_const, ↓ev_func, ↓ev_global, init, Nat.reduceEqDiff, Nat.reduceAdd, Nat.reduceMul, Nat.reduceSub, ↓reduceIte, Int.reduceEq, Int.reduceNe, Nat.reduceLeDiff, one, Value.cells, Int.reduceLE, Int.reduceLT, Int.reduceToNat, add_mk, reduceCtorEq, List.mem_range'_1, true_and, and_true, and_false, false_and, Nat.reduceLT, Nat.reduceLeDiff, tyF, p_nil]
  refine hK _ _ ?_
  simp (config := {maxSteps := 1000000}) only [↓zvD, zvU, ↓up_apply, ↓hv_apply, ↓upO_some, ↓upO_none, ↓ev_tmp, ↓ev_const, ↓ev_func, ↓ev_global, init, Nat.reduceEqDiff, Nat.reduceAdd, Nat.reduceMul, Nat.reduceSub, ↓reduceIte, Int.reduceEq, Int.reduceNe, Nat.reduceLeDiff, one, Value.cells, Int.reduceLE, Int.reduceLT, Int.reduceToNat, add_mk, reduceCtorEq, List.mem_range'_1, true_and, and_true, and_false, false_and, Nat.reduceLT, Nat.reduceLeDiff, tyF, p_nil]
  exact ⟨rfl, ((hm1.trans hm2).trans hm4).trans hm5⟩
/-- a prefix as it may be -/
abbrev Pfx := {p : PrefM // p.addr.length = 7}
instance : Inhabited Pfx := ⟨⟨prefZ, rfl⟩⟩
def cfP (x y : Pfx) : Int := Lib.compareBytes (pkey x.1) (pkey y.1)
theorem ltP (x y : Pfx) : ltOf cfP x y = decide (plt x.1 y.1) := rfl
theorem swoP : Sort.SWO (ltOf cfP) where
  irrefl x := by rw [ltP]; exact decide_eq_false (plt_irrefl _)
  trans x y z h1 h2 := by
    rw [ltP] at *
    exact decide_eq_true (plt_trans (of_decide_eq_true h1) (of_decide_eq_true h2))
  ntrans x y z h1 h2 := by
    rw [ltP] at *
    have h1 := of_decide_eq_false h1
    have h2 := of_decide_eq_false h2
    refine decide_eq_false fun h3 => ?_
    by_cases e : x.1 = y.1
    · rw [e] at h3; exact h2 h3
    · by_cases e2 : y.1 = z.1
      · rw [← e2] at h3; exact h1 h3
      · have h4 : plt y.1 x.1 := by
          rcases Classical.em (plt y.1 x.1) with h | h
          · exact h
          · exact absurd ((plt_total e).2 h) h1
        have h5 : plt z.1 y.1 := by
          rcases Classical.em (plt z.1 y.1) with h | h
          · exact h
          · exact absurd ((plt_total e2).2 h) h2
        exact plt_irrefl _ (plt_trans h3 (plt_trans h5 h4))
theorem totP (x y : Pfx) (h1 : ltOf cfP x y = false) (h2 : ltOf cfP y x = false) : x = y := by
  rw [ltP] at *
  have h1 := of_decide_eq_false h1
  have h2 := of_decide_eq_false h2
  apply Subtype.ext
  rcases Classical.em (x.1 = y.1) with h | h
  · exact h
  · exact absurd ((plt_total h).2 h2) h1
theorem moreD_grow {a b : World} (h : MoreD a b) : ∃ q os', b = Sort.grow (a.drewN q) os' := by
  refine ⟨b.drawn - a.drawn, b.heap.extract a.heap.size b.heap.size, ?_⟩
  obtain ⟨⟨h1, h2, h3, h4, h5⟩, h6⟩ := h
  have hh : b.heap = a.heap ++ b.heap.extract a.heap.size b.heap.size := by
    apply Array.ext_getElem?
    intro i
    rcases Nat.lt_or_ge i a.heap.size with h | h
    · rw [Array.getElem?_append_left h, h5 i h]
    · rw [Array.getElem?_append_right h, Array.getElem?_extract]
      split
      · congr 1; omega
      · rw [Array.getElem?_eq_none (by omega)]
  obtain ⟨bh, bt, bd, bo, bu⟩ := b
  simp only at h1 h2 h3 h6 hh
  unfold Sort.grow World.drewN
  simp only [World.mk.injEq]
  exact ⟨hh, h2, by omega, h1, h3⟩
theorem flat_get (ds : List Pfx) : Sort.flatK (fun x : Pfx => x.1.cells) 8 ds.toArray = ((ds.map Subtype.val).flatMap PrefM.cells).toArray := by
  have hl : ∀ m ∈ ds.map Subtype.val, (PrefM.cells m).length = 8 := by
    intro m hm
    obtain ⟨x, _, rfl⟩ := List.mem_map.1 hm
    simp [PrefM.cells, x.2]
  have hln : ((ds.map Subtype.val).flatMap PrefM.cells).length = ds.length * 8 := by rw [row_len _ hl, List.length_map]
  apply Array.ext
  · rw [Sort.size_flatK, List.size_toArray, List.size_toArray, hln]
  · intro i h1 h2
    have h : i < ds.length * 8 := by simpa using h1
    have hq : i / 8 < ds.length := by omega
    have r := row_cell _ hl (i / 8) (ds[i / 8]).1 (i % 8) (by rw [List.getElem?_map, List.getElem?_eq_getElem hq]; rfl) (by omega)
    rw [show i / 8 * 8 + i % 8 = i by omega] at r
    have h8 : (PrefM.cells (ds[i / 8]).1).length = 8 := by simp [PrefM.cells, (ds[i / 8]).2]
    have g := Sort.get_flatK (fun x : Pfx => x.1.cells) 8 ds.toArray i (by simpa using h)
    have e : ds.toArray[i / 8]! = ds[i / 8] := by rw [getElem!_pos ds.toArray (i / 8) (by simpa using hq)]; rfl
    rw [getElem!_pos _ i h1, e] at g
    rw [g]
    rw [getElem!_pos _ (i % 8) (by omega), List.getElem_toArray]
    rw [List.getElem?_eq_getElem (by omega), List.getElem?_eq_getElem (by omega)] at r
    exact (Option.some.inj r).symm
theorem sort_prefs (g : FuncId) (eg : ∀ args w, (callFunc g args).run Try.prog w = .ok (.enter g args) w) (hcmp : ∀ (w : World) (p q : PrefM), p.addr.length = 7 → q.addr.length = 7 → Ret Try.prog g #[.agg p.cells.toArray, .agg q.cells.toArray] w fun v w' => v = .int .i64 (Lib.compareBytes (pkey p) (pkey q)) ∧ MoreD w w')
    (w : World) (b c : Nat) (ps : List PrefM) (hps : ∀ p ∈ ps, p.addr.length = 7) (hl : ps.length ≤ 1000000) (hlt : b < w.heap.size) (hb : ∀ j v, (ps.flatMap PrefM.cells)[j]? = some v → w.cell? ⟨b, j, none⟩ = some v ∧ w.frozen? ⟨b, j, none⟩ = false) :
    Ret Try.prog 46 #[.slice (some ⟨b, 0, none⟩) ps.length c, .func (.func g) #[] #[]] w fun v w' => v = .tuple #[] ∧ ∃ rs : List PrefM, rs.Perm ps ∧ rs.Pairwise (fun x y => ¬ plt y x) ∧ Cs w' (some ⟨b, 0, none⟩) (rs.flatMap PrefM.cells) ∧ But b w w' := by
  obtain ⟨ds, hds⟩ : ∃ ds : List Pfx, ds.map Subtype.val = ps := ⟨ps.pmap (fun p h => ⟨p, h⟩) hps, by simp [List.map_pmap]⟩
  have hlen : ds.toArray.size = ps.length := by rw [← hds]; simp
  have hfl : Sort.flatK (fun x : Pfx => x.1.cells) 8 ds.toArray = (ps.flatMap PrefM.cells).toArray := by rw [flat_get, hds]
  have hH : Sort.HoldsK (fun x : Pfx => x.1.cells) 8 w b 0 ds.toArray := by
    unfold Sort.HoldsK
    rw [hfl]
    intro j hj
    have hj' : j < (ps.flatMap PrefM.cells).length := by simpa using hj
    have := hb j _ (List.getElem?_eq_getElem hj')
    rw [Nat.zero_add]
    refine ⟨?_, this.2⟩
    rw [this.1, getElem!_pos _ j hj]
    rfl
  have hC : CmpLays Try.prog g #[] (fun x : Pfx => x.1.cells) 8 cfP b 0 ds.toArray.size w := by
    intro m os dk _ x y
    refine Calls.mono (hcmp _ x.1 y.1 x.2 y.2) ?_
    rintro e w' ⟨v, rfl, rfl, hm⟩
    exact ⟨rfl, moreD_grow hm⟩
  have hS := AnyQ.slices_SortFunc_total sortPref 8 Try.isAgg24 Try.sizeOf24 (fun x : Pfx => x.1.cells) (fun x => by simp [PrefM.cells, x.2]) (fun x v hv => PrefM.one _ v hv) cfP swoP g #[] b 0 c ds.toArray w eg hC hH hlt (by omega) totP
  change Calls Try.prog 46 _ _ _ at hS
  rw [hlen] at hS
  refine Calls.mono hS ?_
  rintro e w' ⟨rfl, n, os, rfl⟩
  refine ⟨_, rfl, rfl, (ds.mergeSort fun x y => !ltOf cfP y x).map Subtype.val, ?_, ?_, ?_, ?_⟩
  · rw [← hds]
    exact (List.mergeSort_perm _ _).map _
  · rw [List.pairwise_map]
    have := List.pairwise_mergeSort (le := fun x y => !ltOf cfP y x) (fun a b c h1 h2 => by
      simp only [Bool.not_eq_true'] at *
      exact swoP.ntrans _ _ _ h2 h1) (fun a b => by
      simp only [ltP]
      rcases Classical.em (plt b.1 a.1) with h | h
      · have : ¬ plt a.1 b.1 := fun h2 => plt_irrefl _ (plt_trans h h2)
        simp [this]
      · simp [h]) ds
    refine this.imp ?_
    intro a b h
    rw [ltP] at h
    simpa using h
  · have h2 := holdsK_sortWorldK_c (fun x : Pfx => x.1.cells) 8 w b 0 ds.toArray (ds.mergeSort fun x y => !ltOf cfP y x).toArray n os hH hlt (by simp)
    unfold Sort.HoldsK at h2
    rw [flat_get] at h2
    intro i v hi
    have hil := (List.getElem?_eq_some_iff.1 hi).1
    refine ⟨_, rfl, ?_⟩
    have h3 := (h2 i (by simpa using hil)).1
    rw [add_mk]
    rw [getElem!_pos _ i (by simpa using hil), List.getElem_toArray] at h3
    rw [List.getElem?_eq_getElem hil] at hi
    rw [← Option.some.inj hi]
    exact h3
  · refine ⟨rfl, rfl, rfl, ?_, fun k hk hn => ?_⟩
    · simp [sortWorldK, Sort.grow, Sort.putRowK, Sort.putRow, Sort.mapBlock, Sort.ahead]
    · have hn' : ¬ b = k := fun e => hn e.symm
      simp only [sortWorldK, Sort.grow, Sort.putRowK, Sort.putRow, Sort.mapBlock, Sort.ahead]
      rw [Array.getElem?_append_left (by simpa using hk), Array.getElem?_modify, if_neg hn']
theorem prefE : ElemT Try.prog 24 (.agg prefZ.cells.toArray) 8 8 := by unfold ElemT; kernel_rfl
/-- who is there, in the order of the places -/
def takenM (ls : List PlaceM) : List PrefM := (ls.filter (·.state = 1)).map PlaceM.p
theorem taken_step {ls : List PlaceM} {k : Nat} {y : PlaceM} (hy : ls[k]? = some y) : takenM (ls.take (k + 1)) = takenM (ls.take k) ++ if y.state = 1 then [y.p] else [] := by
  unfold takenM
  rw [List.take_add_one, hy, List.filter_append, List.map_append]
  congr 1
  simp only [Option.toList_some, List.filter_cons, List.filter_nil]
  by_cases h : y.state = 1 <;> simp [h]
theorem taken_le (ls : List PlaceM) (k : Nat) : (takenM (ls.take k)).length ≤ k := by
  unfold takenM
  rw [List.length_map]
  exact Nat.le_trans (List.length_filter_le _ _) (by rw [List.length_take]; omega)
theorem taken_ok {s : Nat} {ls : List PlaceM} (h : TabOk s ls) : ∀ p ∈ takenM ls, p.addr.length = 7 := by
  intro p hp
  obtain ⟨y, hy, rfl⟩ := List.mem_map.1 hp
  exact (h y (List.mem_filter.1 hy).1).pre
def AllJ (ls : List PlaceM) (w : World) (v3 v13 : Value) (w' : World) : Prop :=
  ∃ (k : Nat) (A : Option Addr) (c : Nat), v13 = .int .i64 k ∧ k ≤ ls.length ∧ v3 = .slice A (takenM (ls.take k)).length c ∧ Own w' w.heap.size 24 8 A (takenM (ls.take k)).length c ((takenM (ls.take k)).flatMap PrefM.cells) ∧ More w w'
/-- all prefixes, in order -/
def AllR (ls : List PlaceM) (w : World) (v : Value) (w' : World) : Prop :=
  ∃ (A : Option Addr) (c : Nat) (rs : List PrefM), v = .slice A rs.length c ∧ rs.Perm (takenM ls) ∧ rs.Pairwise (fun x y => ¬ plt y x) ∧ Cs w' A (rs.flatMap PrefM.cells) ∧ (∀ a, A = some a → w.heap.size ≤ a.block) ∧ More w w'
theorem table_all_int (w : World) (b t : Nat) (ls : List PlaceM) (room n : Nat) (hT : TabW w 91 95 10 b t ls room n) :
    Ret Try.prog 18 #[.pointer (some ⟨t, 0, none⟩)] w (AllR ls w) := by
  refine ret_of Try.func18 rfl (by kernel_rfl) (Nat.le_of_ble_eq_true (by kernel_rfl)) ?_
  have c0 := hT.tab.cell 0
  simp only [List.getElem?_cons_zero] at c0
  have hlen := hT.le
  simp (config := {maxSteps := 1000000}) only [↓zvN, zvU, ↓up_apply, ↓hv_apply, ↓upO_some, ↓upO_none, ↓ev_tmp, ↓ev_const, ↓ev_func, ↓ev_global, init, Nat.reduceEqDiff, Nat.reduceAdd, Nat.reduceMul, Nat.reduceSub, ↓reduceIte, Int.reduceEq, Int.reduceNe, Nat.reduceLeDiff, one, Value.cells, Int.reduceLE, Int.reduceLT, Int.reduceToNat, add_mk, reduceCtorEq, List.mem_range'_1, true_and, and_true, and_false, false_and, Nat.reduceLT, Nat.reduceLeDiff, tyF, c0]
  refine loop_p (3 :: 5 :: List.range' 13 13) (fun e w' => AllJ ls w (e 3) (e 13) w') (fun e _ => ls.length - (numOf (e 13)).toNat) ?_ ?_
  · exact ⟨0, none, 0, by simp only [hv_apply, up_apply, upO_some, upO_none, init, List.mem_cons, List.mem_range'_1, true_and, and_true, and_false, false_and, Nat.reduceLT, Nat.reduceLeDiff, Nat.reduceAdd, true_or, or_true, if_true, if_false, ↓reduceIte, Nat.reduceEqDiff, false_or, or_false, List.not_mem_nil, List.getElem?_cons_zero, List.getElem?_cons_succ, Option.getD_some] <;> rfl, by omega, by simp only [hv_apply, up_apply, upO_some, upO_none, init, List.mem_cons, List.mem_range'_1, true_and, and_true, and_false, false_and, Nat.reduceLT, Nat.reduceLeDiff, Nat.reduceAdd, true_or, or_true, if_true, if_false, ↓reduceIte, Nat.reduceEqDiff, false_or, or_false, List.not_mem_nil, List.getElem?_cons_zero, List.getElem?_cons_succ, Option.getD_some] <;> rfl, Own.nil _ _ _ _, More.refl _⟩
  rintro v w2 ⟨k, A2, c2, h13, hk, h3, ho2, hm2⟩
  simp only [hv_apply, up_apply, upO_some, upO_none, init, List.mem_cons, List.mem_range'_1, true_and, and_true, and_false, false_and, Nat.reduceLT, Nat.reduceLeDiff, Nat.reduceAdd, true_or, or_true, if_true, if_false, ↓reduceIte, Nat.reduceEqDiff, false_or, or_false, List.not_mem_nil, List.getElem?_cons_zero, List.getElem?_cons_succ, Option.getD_some] at h13 h3
  have ek : IntKind.i64.wrap ((k : Int) + 1) = ((k + 1 : Nat) : Int) := w64 (by omega) (by omega)
  simp (config := {maxSteps := 1000000}) only [↓zvN, zvU, ↓up_apply, ↓hv_apply, ↓upO_some, ↓upO_none, ↓ev_tmp, ↓ev_const, ↓ev_func, ↓ev_global, init, Nat.reduceEqDiff, Nat.reduceAdd, Nat.reduceMul, Nat.reduceSub, ↓reduceIte, Int.reduceEq, Int.reduceNe, Nat.reduceLeDiff, one, Value.cells, Int.reduceLE, Int.reduceLT, Int.reduceToNat, add_mk, reduceCtorEq, List.mem_range'_1, true_and, and_true, and_false, false_and, Nat.reduceLT, Nat.reduceLeDiff, tyF, h13, h3]
  refine ⟨fun h9 => ?_, fun h9 => ?_⟩
  rotate_left
  · obtain rfl : k = ls.length := by omega
    rw [List.take_length] at ho2
    simp only [List.take_length]
    obtain ⟨ps, hps⟩ : ∃ ps, takenM ls = ps := ⟨_, rfl⟩
    have hpo := taken_ok hT.ok
    have hpl := taken_le ls ls.length
    rw [List.take_length] at hpl
    unfold AllR
    rw [hps] at ho2 hpo hpl ⊢
    rw [List.take_length, hps] at h3
    have fin : ∀ w3, (∃ rs : List PrefM, rs.Perm ps ∧ rs.Pairwise (fun x y => ¬ plt y x) ∧ Cs w3 A2 (rs.flatMap PrefM.cells)) ∧ More w w3 → ∃ (A : Option Addr) (c : Nat) (rs : List PrefM), Value.slice A2 ps.length c2 = .slice A rs.length c ∧ rs.Perm ps ∧ rs.Pairwise (fun x y => ¬ plt y x) ∧ Cs w3 A (rs.flatMap PrefM.cells) ∧ (∀ a, A = some a → w.heap.size ≤ a.block) ∧ More w w3 := by
      rintro w3 ⟨⟨rs, h1, h2, h3⟩, h4⟩
      exact ⟨A2, c2, rs, by rw [h1.length_eq], h1, h2, h3, fun a ha => (ho2.atB_ge ⟨a, ha, rfl⟩).1, h4⟩
    rcases ho2.blk with ⟨hA, hn0⟩ | ⟨g, hA, hgB, hgl, cur, hgb⟩
    · have hnil : ps = [] := List.eq_nil_of_length_eq_zero hn0
      have hS := AnyF.slices_SortFunc_none (P := Try.prog) sortPref A2 c2 (.func (.func 47) #[] #[]) w2
      change Calls Try.prog 46 _ _ _ at hS
      refine call_ok (R := fun v w' => v = .tuple #[] ∧ w' = w2) Try.call46 (by rw [hn0]; exact Calls.mono hS fun e w' ⟨h1, h2⟩ => ⟨_, h1, rfl, h2⟩) ?_
      rintro _ w3 ⟨rfl, rfl⟩
      simp (config := {maxSteps := 1000000}) only [↓zvN, zvU, ↓up_apply, ↓hv_apply, ↓upO_some, ↓upO_none, ↓ev_tmp, ↓ev_const, ↓ev_func, ↓ev_global, init, Nat.reduceEqDiff, Nat.reduceAdd, Nat.reduceMul, Nat.reduceSub, ↓reduceIte, Int.reduceEq, Int.reduceNe, Nat.reduceLeDiff, one, Value.cells, Int.reduceLE, Int.reduceLT, Int.reduceToNat, add_mk, reduceCtorEq, List.mem_range'_1, true_and, and_true, and_false, false_and, Nat.reduceLT, Nat.reduceLeDiff, tyF, h3]
      exact fin w3 ⟨⟨ps, List.Perm.refl _, by rw [hnil]; exact List.Pairwise.nil, ho2.cs⟩, hm2⟩
    · subst hA
      have hcs := ho2.cs
      refine call_ok Try.call46 (sort_prefs _ Try.call47 table_cmp_int w2 g c2 ps hpo (by omega) hgl (fun j v hj => by
        obtain ⟨a, ha, hc⟩ := hcs j v hj
        cases ha
        rw [add_mk, Nat.zero_add] at hc
        exact ⟨hc, hgb.frozen j⟩)) ?_
      rintro _ w3 ⟨rfl, rs, h1, h2, h4, h5⟩
      simp (config := {maxSteps := 1000000}) only [↓zvN, zvU, ↓up_apply, ↓hv_apply, ↓upO_some, ↓upO_none, ↓ev_tmp, ↓ev_const, ↓ev_func, ↓ev_global, init, Nat.reduceEqDiff, Nat.reduceAdd, Nat.reduceMul, Nat.reduceSub, ↓reduceIte, Int.reduceEq, Int.reduceNe, Nat.reduceLeDiff, one, Value.cells, Int.reduceLE, Int.reduceLT, Int.reduceToNat, add_mk, reduceCtorEq, List.mem_range'_1, true_and, and_true, and_false, false_and, Nat.reduceLT, Nat.reduceLeDiff, tyF, h3]
      exact fin w3 ⟨⟨rs, h1, h2, h4⟩, more_but hm2 h5 hgB⟩
  have hil : k < ls.length := by omega
  obtain ⟨y, hy⟩ := row_nat ls k hil
  have hT2 := hT.more hm2
  have hyo := hT.ok y (List.mem_of_getElem? hy)
  have vrow := blk_elem hT2.row hT.ok.lens hy
  have g0 : (0 : Int) ≤ (k : Int) := by omega
  simp (config := {maxSteps := 1000000}) only [↓zvN, zvU, ↓up_apply, ↓hv_apply, ↓upO_some, ↓upO_none, ↓ev_tmp, ↓ev_const, ↓ev_func, ↓ev_global, init, Nat.reduceEqDiff, Nat.reduceAdd, Nat.reduceMul, Nat.reduceSub, ↓reduceIte, Int.reduceEq, Int.reduceNe, Nat.reduceLeDiff, one, Value.cells, Int.reduceLE, Int.reduceLT, Int.reduceToNat, add_mk, reduceCtorEq, List.mem_range'_1, true_and, and_true, and_false, false_and, Nat.reduceLT, Nat.reduceLeDiff, tyF, h13, h3, g0, h9, hil, vrow, Int.toNat_natCast, zerPlace_int]
  have hm7 := more_alloc w2 (.cells (PlaceM.mk 0 prefZ [.int .i64 0]).cells.toArray 95)
  have hb7 := Blk.new w2 95 (PlaceM.mk 0 prefZ [.int .i64 0]).cells.toArray
  obtain ⟨w7, hw7⟩ : ∃ w7, w2.alloc (.cells (PlaceM.mk 0 prefZ [.int .i64 0]).cells.toArray 95) = w7 := ⟨_, rfl⟩
  rw [hw7] at hm7 hb7 ⊢
  clear hw7
  refine st_all hb7 (by simpa using hyo.len) (by rfl) (by simpa using hyo.ones) fun w8 j1 j2 => ?_
  rw [List.toList_toArray] at j2
  have hm8 : More w2 w8 := more_but hm7 (But.of_wr j1) (Nat.le_refl _)
  have hm18 := hm2.trans hm8
  obtain ⟨qb, hqb⟩ : ∃ q, w2.heap.size = q := ⟨_, rfl⟩
  rw [hqb] at j2 ⊢
  have d0 : w8.cell? ⟨qb, 0, none⟩ = some (.int .i64 y.state) := by rw [j2.cell]; rfl
  have h8 : y.p.cells.length = 8 := by simp [PrefM.cells, hyo.pre]
  have d1 : ∀ K : Value → Prop, ldRow 8 ⟨qb, 1, none⟩ w8 K = K (.agg y.p.cells.toArray) := fun K => by
    have hl := hyo.len
    simp only [PlaceM.cells, List.length_cons, List.length_append, h8] at hl
    rw [j2.row_eq 1 8 (by simp only [PlaceM.cells, List.length_cons, List.length_append, h8]; omega)]
    congr 2
    simp only [PlaceM.cells, List.drop_succ_cons, List.drop_zero]
    rw [List.take_append_of_le_length (by omega), List.take_of_length_le (by omega)]
  have ho8 := ho2.more hm8
  have hts := taken_step hy
  have htl := taken_le ls k
  rw [s2_undef]
  by_cases h1 : y.state = 1
  · rw [if_pos h1] at hts
    simp (config := {maxSteps := 1000000}) only [↓zvN, zvU, ↓up_apply, ↓hv_apply, ↓upO_some, ↓upO_none, ↓ev_tmp, ↓ev_const, ↓ev_func, ↓ev_global, init, Nat.reduceEqDiff, Nat.reduceAdd, Nat.reduceMul, Nat.reduceSub, ↓reduceIte, Int.reduceEq, Int.reduceNe, Nat.reduceLeDiff, one, Value.cells, Int.reduceLE, Int.reduceLT, Int.reduceToNat, add_mk, reduceCtorEq, List.mem_range'_1, true_and, and_true, and_false, false_and, Nat.reduceLT, Nat.reduceLeDiff, tyF, h13, h3, d0, d1, h1]
    refine bslice1 Try.underlying39 prefE (by omega) (by omega) h8 ?_
    have hm6 := more_alloc w8 (.cells y.p.cells.toArray 24)
    have hb6 := Blk.new w8 24 y.p.cells.toArray
    have s6 := size_alloc w8 (.cells y.p.cells.toArray 24)
    simp (config := {maxSteps := 1000000}) only [↓zvN, zvU, ↓up_apply, ↓hv_apply, ↓upO_some, ↓upO_none, ↓ev_tmp, ↓ev_const, ↓ev_func, ↓ev_global, init, Nat.reduceEqDiff, Nat.reduceAdd, Nat.reduceMul, Nat.reduceSub, ↓reduceIte, Int.reduceEq, Int.reduceNe, Nat.reduceLeDiff, one, Value.cells, Int.reduceLE, Int.reduceLT, Int.reduceToNat, add_mk, reduceCtorEq, List.mem_range'_1, true_and, and_true, and_false, false_and, Nat.reduceLT, Nat.reduceLeDiff, tyF, h13, h3]
    obtain ⟨w6, hw6⟩ : ∃ w6, w8.alloc (.cells y.p.cells.toArray 24) = w6 := ⟨_, rfl⟩
    rw [hw6] at hm6 hb6 s6 ⊢
    clear hw6
    rw [List.toList_toArray] at hb6
    have hsz := hm18.size
    refine app_mod (m := 1) (news := y.p.cells) Try.underlying39 prefE rfl (by omega) (ho8.more hm6) hb6.cs (by rw [h8]) (PrefM.one _) (by simp only [maxLen]; omega) (by omega) (by omega) ?_
    intro A9 c9 w9 ho9 hmod9 hat9
    have hm9 : More w w9 := Mod.more (hm18.trans hm6) hmod9 (fun k hk h => by have := ho8.atB_ge h; omega)
    simp (config := {maxSteps := 1000000}) only [↓zvN, zvU, ↓up_apply, ↓hv_apply, ↓upO_some, ↓upO_none, ↓ev_tmp, ↓ev_const, ↓ev_func, ↓ev_global, init, Nat.reduceEqDiff, Nat.reduceAdd, Nat.reduceMul, Nat.reduceSub, ↓reduceIte, Int.reduceEq, Int.reduceNe, Nat.reduceLeDiff, one, Value.cells, Int.reduceLE, Int.reduceLT, Int.reduceToNat, add_mk, reduceCtorEq, List.mem_range'_1, true_and, and_true, and_false, false_and, Nat.reduceLT, Nat.reduceLeDiff, tyF, h13, h3, ek]
    rw [show (takenM (ls.take k)).length + 1 = (takenM (ls.take (k + 1))).length by rw [hts]; simp] at ho9 ⊢
    refine ⟨⟨?_, k + 1, A9, c9, rfl, by omega, rfl, by rw [hts] at ho9 ⊢; simpa [List.flatMap_append] using ho9, hm9⟩, by simp only [numOf]; omega⟩
    repeat (first | exact Same.hv _ _ _ | refine Same.up (by simp) ?_)
  · rw [if_neg h1, List.append_nil] at hts
    simp (config := {maxSteps := 1000000}) only [↓zvN, zvU, ↓up_apply, ↓hv_apply, ↓upO_some, ↓upO_none, ↓ev_tmp, ↓ev_const, ↓ev_func, ↓ev_global, init, Nat.reduceEqDiff, Nat.reduceAdd, Nat.reduceMul, Nat.reduceSub, ↓reduceIte, Int.reduceEq, Int.reduceNe, Nat.reduceLeDiff, one, Value.cells, Int.reduceLE, Int.reduceLT, Int.reduceToNat, add_mk, reduceCtorEq, List.mem_range'_1, true_and, and_true, and_false, false_and, Nat.reduceLT, Nat.reduceLeDiff, tyF, h13, h3, d0, d1, h1, ek]
    refine ⟨⟨?_, k + 1, A2, c2, rfl, by omega, by rw [hts], by rw [hts]; exact ho8, hm18⟩, by simp only [numOf]; omega⟩
    repeat (first | exact Same.hv _ _ _ | refine Same.up (by simp) ?_)
theorem table_all_string (w : World) (b t : Nat) (ls : List PlaceM) (room n : Nat) (hT : TabW w 100 102 10 b t ls room n) :
    Ret Try.prog 26 #[.pointer (some ⟨t, 0, none⟩)] w (AllR ls w) := by
  refine ret_of Try.func26 rfl (by kernel_rfl) (Nat.le_of_ble_eq_true (by kernel_rfl)) ?_
  have c0 := hT.tab.cell 0
  simp only [List.getElem?_cons_zero] at c0
  have hlen := hT.le
  simp (config := {maxSteps := 1000000}) only [↓zvN, zvU, ↓up_apply, ↓hv_apply, ↓upO_some, ↓upO_none, ↓ev_tmp, ↓ev_const, ↓ev_func, ↓ev_global, init, Nat.reduceEqDiff, Nat.reduceAdd, Nat.reduceMul, Nat.reduceSub, ↓reduceIte, Int.reduceEq, Int.reduceNe, Nat.reduceLeDiff, one, Value.cells, Int.reduceLE, Int.reduceLT, Int.reduceToNat, add_mk, reduceCtorEq, List.mem_range'_1, true_and, and_true, and_false, false_and, Nat.reduceLT, Nat.reduceLeDiff, tyF, c0]
  refine loop_p (3 :: 5 :: List.range' 13 13) (fun e w' => AllJ ls w (e 3) (e 13) w') (fun e _ => ls.length - (numOf (e 13)).toNat) ?_ ?_
  · exact ⟨0, none, 0, by simp only [hv_apply, up_apply, upO_some, upO_none, init, List.mem_cons, List.mem_range'_1, true_and, and_true, and_false, false_and, Nat.reduceLT, Nat.reduceLeDiff, Nat.reduceAdd, true_or, or_true, if_true, if_false, ↓reduceIte, Nat.reduceEqDiff, false_or, or_false, List.not_mem_nil, List.getElem?_cons_zero, List.getElem?_cons_succ, Option.getD_some] <;> rfl, by omega, by simp only [hv_apply, up_apply, upO_some, upO_none, init, List.mem_cons, List.mem_range'_1, true_and, and_true, and_false, false_and, Nat.reduceLT, Nat.reduceLeDiff, Nat.reduceAdd, true_or, or_true, if_true, if_false, ↓reduceIte, Nat.reduceEqDiff, false_or, or_false, List.not_mem_nil, List.getElem?_cons_zero, List.getElem?_cons_succ, Option.getD_some] <;> rfl, Own.nil _ _ _ _, More.refl _⟩
  rintro v w2 ⟨k, A2, c2, h13, hk, h3, ho2, hm2⟩
  simp only [hv_apply, up_apply, upO_some, upO_none, init, List.mem_cons, List.mem_range'_1, true_and, and_true, and_false, false_and, Nat.reduceLT, Nat.reduceLeDiff, Nat.reduceAdd, true_or, or_true, if_true, if_false, ↓reduceIte, Nat.reduceEqDiff, false_or, or_false, List.not_mem_nil, List.getElem?_cons_zero, List.getElem?_cons_succ, Option.getD_some] at h13 h3
  have ek : IntKind.i64.wrap ((k : Int) + 1) = ((k + 1 : Nat) : Int) := w64 (by omega) (by omega)
  simp (config := {maxSteps := 1000000}) only [↓zvN, zvU, ↓up_apply, ↓hv_apply, ↓upO_some, ↓upO_none, ↓ev_tmp, ↓ev_const, ↓ev_func, ↓ev_global, init, Nat.reduceEqDiff, Nat.reduceAdd, Nat.reduceMul, Nat.reduceSub, ↓reduceIte, Int.reduceEq, Int.reduceNe, Nat.reduceLeDiff, one, Value.cells, Int.reduceLE, Int.reduceLT, Int.reduceToNat, add_mk, reduceCtorEq, List.mem_range'_1, true_and, and_true, and_false, false_and, Nat.reduceLT, Nat.reduceLeDiff, tyF, h13, h3]
  refine ⟨fun h9 => ?_, fun h9 => ?_⟩
  rotate_left
  · obtain rfl : k = ls.length := by omega
    rw [List.take_length] at ho2
    simp only [List.take_length]
    obtain ⟨ps, hps⟩ : ∃ ps, takenM ls = ps := ⟨_, rfl⟩
    have hpo := taken_ok hT.ok
    have hpl := taken_le ls ls.length
    rw [List.take_length] at hpl
    unfold AllR
    rw [hps] at ho2 hpo hpl ⊢
    rw [List.take_length, hps] at h3
    have fin : ∀ w3, (∃ rs : List PrefM, rs.Perm ps ∧ rs.Pairwise (fun x y => ¬ plt y x) ∧ Cs w3 A2 (rs.flatMap PrefM.cells)) ∧ More w w3 → ∃ (A : Option Addr) (c : Nat) (rs : List PrefM), Value.slice A2 ps.length c2 = .slice A rs.length c ∧ rs.Perm ps ∧ rs.Pairwise (fun x y => ¬ plt y x) ∧ Cs w3 A (rs.flatMap PrefM.cells) ∧ (∀ a, A = some a → w.heap.size ≤ a.block) ∧ More w w3 := by
      rintro w3 ⟨⟨rs, h1, h2, h3⟩, h4⟩
      exact ⟨A2, c2, rs, by rw [h1.length_eq], h1, h2, h3, fun a ha => (ho2.atB_ge ⟨a, ha, rfl⟩).1, h4⟩
    rcases ho2.blk with ⟨hA, hn0⟩ | ⟨g, hA, hgB, hgl, cur, hgb⟩
    · have hnil : ps = [] := List.eq_nil_of_length_eq_zero hn0
      have hS := AnyF.slices_SortFunc_none (P := Try.prog) sortPref A2 c2 (.func (.func 49) #[] #[]) w2
      change Calls Try.prog 46 _ _ _ at hS
      refine call_ok (R := fun v w' => v = .tuple #[] ∧ w' = w2) Try.call46 (by rw [hn0]; exact Calls.mono hS fun e w' ⟨h1, h2⟩ => ⟨_, h1, rfl, h2⟩) ?_
      rintro _ w3 ⟨rfl, rfl⟩
      simp (config := {maxSteps := 1000000}) only [↓zvN, zvU, ↓up_apply, ↓hv_apply, ↓upO_some, ↓upO_none, ↓ev_tmp, ↓ev_const, ↓ev_func, ↓ev_global, init, Nat.reduceEqDiff, Nat.reduceAdd, Nat.reduceMul, Nat.reduceSub, ↓reduceIte, Int.reduceEq, Int.reduceNe, Nat.reduceLeDiff, one, Value.cells, Int.reduceLE, Int.reduceLT, Int.reduceToNat, add_mk, reduceCtorEq, List.mem_range'_1, true_and, and_true, and_false, false_and, Nat.reduceLT, Nat.reduceLeDiff, tyF, h3]
      exact fin w3 ⟨⟨ps, List.Perm.refl _, by rw [hnil]; exact List.Pairwise.nil, ho2.cs⟩, hm2⟩
    · subst hA
      have hcs := ho2.cs
      refine call_ok Try.call46 (sort_prefs _ Try.call49 table_cmp_string w2 g c2 ps hpo (by omega) hgl (fun j v hj => by
        obtain ⟨a, ha, hc⟩ := hcs j v hj
        cases ha
        rw [add_mk, Nat.zero_add] at hc
        exact ⟨hc, hgb.frozen j⟩)) ?_
      rintro _ w3 ⟨rfl, rs, h1, h2, h4, h5⟩
      simp (config := {maxSteps := 1000000}) only [↓zvN, zvU, ↓up_apply, ↓hv_apply, ↓upO_some, ↓upO_none, ↓ev_tmp, ↓ev_const, ↓ev_func, ↓ev_global, init, Nat.reduceEqDiff, Nat.reduceAdd, Nat.reduceMul, Nat.reduceSub, ↓reduceIte, Int.reduceEq, Int.reduceNe, Nat.reduceLeDiff, one, Value.cells, Int.reduceLE, Int.reduceLT, Int.reduceToNat, add_mk, reduceCtorEq, List.mem_range'_1, true_and, and_true, and_false, false_and, Nat.reduceLT, Nat.reduceLeDiff, tyF, h3]
      exact fin w3 ⟨⟨rs, h1, h2, h4⟩, more_but hm2 h5 hgB⟩
  have hil : k < ls.length := by omega
  obtain ⟨y, hy⟩ := row_nat ls k hil
  have hT2 := hT.more hm2
  have hyo := hT.ok y (List.mem_of_getElem? hy)
  have vrow := blk_elem hT2.row hT.ok.lens hy
  have g0 : (0 : Int) ≤ (k : Int) := by omega
  simp (config := {maxSteps := 1000000}) only [↓zvN, zvU, ↓up_apply, ↓hv_apply, ↓upO_some, ↓upO_none, ↓ev_tmp, ↓ev_const, ↓ev_func, ↓ev_global, init, Nat.reduceEqDiff, Nat.reduceAdd, Nat.reduceMul, Nat.reduceSub, ↓reduceIte, Int.reduceEq, Int.reduceNe, Nat.reduceLeDiff, one, Value.cells, Int.reduceLE, Int.reduceLT, Int.reduceToNat, add_mk, reduceCtorEq, List.mem_range'_1, true_and, and_true, and_false, false_and, Nat.reduceLT, Nat.reduceLeDiff, tyF, h13, h3, g0, h9, hil, vrow, Int.toNat_natCast, zerPlace_string]
  have hm7 := more_alloc w2 (.cells (PlaceM.mk 0 prefZ [.string ⟨#[]⟩]).cells.toArray 102)
  have hb7 := Blk.new w2 102 (PlaceM.mk 0 prefZ [.string ⟨#[]⟩]).cells.toArray
  obtain ⟨w7, hw7⟩ : ∃ w7, w2.alloc (.cells (PlaceM.mk 0 prefZ [.string ⟨#[]⟩]).cells.toArray 102) = w7 := ⟨_, rfl⟩
  rw [hw7] at hm7 hb7 ⊢
  clear hw7
  refine st_all hb7 (by simpa using hyo.len) (by rfl) (by simpa using hyo.ones) fun w8 j1 j2 => ?_
  rw [List.toList_toArray] at j2
  have hm8 : More w2 w8 := more_but hm7 (But.of_wr j1) (Nat.le_refl _)
  have hm18 := hm2.trans hm8
  obtain ⟨qb, hqb⟩ : ∃ q, w2.heap.size = q := ⟨_, rfl⟩
  rw [hqb] at j2 ⊢
  have d0 : w8.cell? ⟨qb, 0, none⟩ = some (.int .i64 y.state) := by rw [j2.cell]; rfl
  have h8 : y.p.cells.length = 8 := by simp [PrefM.cells, hyo.pre]
  have d1 : ∀ K : Value → Prop, ldRow 8 ⟨qb, 1, none⟩ w8 K = K (.agg y.p.cells.toArray) := fun K => by
    have hl := hyo.len
    simp only [PlaceM.cells, List.length_cons, List.length_append, h8] at hl
    rw [j2.row_eq 1 8 (by simp only [PlaceM.cells, List.length_cons, List.length_append, h8]; omega)]
    congr 2
    simp only [PlaceM.cells, List.drop_succ_cons, List.drop_zero]
    rw [List.take_append_of_le_length (by omega), List.take_of_length_le (by omega)]
  have ho8 := ho2.more hm8
  have hts := taken_step hy
  have htl := taken_le ls k
  rw [s2_undef]
  by_cases h1 : y.state = 1
  · rw [if_pos h1] at hts
    simp (config := {maxSteps := 1000000}) only [↓zvN, zvU, ↓up_apply, ↓hv_apply, ↓upO_some, ↓upO_none, ↓ev_tmp, ↓ev_const, ↓ev_func, ↓ev_global, init, Nat.reduceEqDiff, Nat.reduceAdd, Nat.reduceMul, Nat.reduceSub, ↓reduceIte, Int.reduceEq, Int.reduceNe, Nat.reduceLeDiff, one, Value.cells, Int.reduceLE, Int.reduceLT, Int.reduceToNat, add_mk, reduceCtorEq, List.mem_range'_1, true_and, and_true, and_false, false_and, Nat.reduceLT, Nat.reduceLeDiff, tyF, h13, h3, d0, d1, h1]
    refine bslice1 Try.underlying39 prefE (by omega) (by omega) h8 ?_
    have hm6 := more_alloc w8 (.cells y.p.cells.toArray 24)
    have hb6 := Blk.new w8 24 y.p.cells.toArray
    have s6 := size_alloc w8 (.cells y.p.cells.toArray 24)
    simp (config := {maxSteps := 1000000}) only [↓zvN, zvU, ↓up_apply, ↓hv_apply, ↓upO_some, ↓upO_none, ↓ev_tmp, ↓ev_const, ↓ev_func, ↓ev_global, init, Nat.reduceEqDiff, Nat.reduceAdd, Nat.reduceMul, Nat.reduceSub, ↓reduceIte, Int.reduceEq, Int.reduceNe, Nat.reduceLeDiff, one, Value.cells, Int.reduceLE, Int.reduceLT, Int.reduceToNat, add_mk, reduceCtorEq, List.mem_range'_1, true_and, and_true, and_false, false_and, Nat.reduceLT, Nat.reduceLeDiff, tyF, h13, h3]
    obtain ⟨w6, hw6⟩ : ∃ w6, w8.alloc (.cells y.p.cells.toArray 24) = w6 := ⟨_, rfl⟩
    rw [hw6] at hm6 hb6 s6 ⊢
    clear hw6
    rw [List.toList_toArray] at hb6
    have hsz := hm18.size
    refine app_mod (m := 1) (news := y.p.cells) Try.underlying39 prefE rfl (by omega) (ho8.more hm6) hb6.cs (by rw [h8]) (PrefM.one _) (by simp only [maxLen]; omega) (by omega) (by omega) ?_
    intro A9 c9 w9 ho9 hmod9 hat9
    have hm9 : More w w9 := Mod.more (hm18.trans hm6) hmod9 (fun k hk h => by have := ho8.atB_ge h; omega)
    simp (config := {maxSteps := 1000000}) only [↓zvN, zvU, ↓up_apply, ↓hv_apply, ↓upO_some, ↓upO_none, ↓ev_tmp, ↓ev_const, ↓ev_func, ↓ev_global, init, Nat.reduceEqDiff, Nat.reduceAdd, Nat.reduceMul, Nat.reduceSub, ↓reduceIte, Int.reduceEq, Int.reduceNe, Nat.reduceLeDiff, one, Value.cells, Int.reduceLE, Int.reduceLT, Int.reduceToNat, add_mk, reduceCtorEq, List.mem_range'_1, true_and, and_true, and_false, false_and, Nat.reduceLT, Nat.reduceLeDiff, tyF, h13, h3, ek]
    rw [show (takenM (ls.take k)).length + 1 = (takenM (ls.take (k + 1))).length by rw [hts]; simp] at ho9 ⊢
    refine ⟨⟨?_, k + 1, A9, c9, rfl, by omega, rfl, by rw [hts] at ho9 ⊢; simpa [List.flatMap_append] using ho9, hm9⟩, by simp only [numOf]; omega⟩
    repeat (first | exact Same.hv _ _ _ | refine Same.up (by simp) ?_)
  · rw [if_neg h1, List.append_nil] at hts
    simp (config := {maxSteps := 1000000}) only [↓zvN, zvU, ↓up_apply, ↓hv_apply, ↓upO_some, ↓upO_none, ↓ev_tmp, ↓ev_const, ↓ev_func, ↓ev_global, init, Nat.reduceEqDiff, Nat.reduceAdd, Nat.reduceMul, Nat.reduceSub, ↓reduceIte, Int.reduceEq, Int.reduceNe, Nat.reduceLeDiff, one, Value.cells, Int.reduceLE, Int.reduceLT, Int.reduceToNat, add_mk, reduceCtorEq, List.mem_range'_1, true_and, and_true, and_false, false_and, Nat.reduceLT, Nat.reduceLeDiff, tyF, h13, h3, d0, d1, h1, ek]
    refine ⟨⟨?_, k + 1, A2, c2, rfl, by omega, by rw [hts], by rw [hts]; exact ho8, hm18⟩, by simp only [numOf]; omega⟩
    repeat (first | exact Same.hv _ _ _ | refine Same.up (by simp) ?_)
theorem table_all_box (w : World) (b t : Nat) (ls : List PlaceM) (room n : Nat) (hT : TabW w 135 139 11 b t ls room n) :
    Ret Try.prog 58 #[.pointer (some ⟨t, 0, none⟩)] w (AllR ls w) := by
  refine ret_of Try.func58 rfl (by kernel_rfl) (Nat.le_of_ble_eq_true (by kernel_rfl)) ?_
  have c0 := hT.tab.cell 0
  simp only [List.getElem?_cons_zero] at c0
  have hlen := hT.le
  simp (config := {maxSteps := 1000000}) only [↓zvN, zvU, ↓up_apply, ↓hv_apply, ↓upO_some, ↓upO_none, ↓ev_tmp, ↓ev_const, ↓ev_func, ↓ev_global, init, Nat.reduceEqDiff, Nat.reduceAdd, Nat.reduceMul, Nat.reduceSub, ↓reduceIte, Int.reduceEq, Int.reduceNe, Nat.reduceLeDiff, one, Value.cells, Int.reduceLE, Int.reduceLT, Int.reduceToNat, add_mk, reduceCtorEq, List.mem_range'_1, true_and, and_true, and_false, false_and, Nat.reduceLT, Nat.reduceLeDiff, tyF, c0]
  refine loop_p (3 :: 5 :: List.range' 13 13) (fun e w' => AllJ ls w (e 3) (e 13) w') (fun e _ => ls.length - (numOf (e 13)).toNat) ?_ ?_
  · exact ⟨0, none, 0, by simp only [hv_apply, up_apply, upO_some, upO_none, init, List.mem_cons, List.mem_range'_1, true_and, and_true, and_false, false_and, Nat.reduceLT, Nat.reduceLeDiff, Nat.reduceAdd, true_or, or_true, if_true, if_false, ↓reduceIte, Nat.reduceEqDiff, false_or, or_false, List.not_mem_nil, List.getElem?_cons_zero, List.getElem?_cons_succ, Option.getD_some] <;> rfl, by omega, by simp only [hv_apply, up_apply, upO_some, upO_none, init, List.mem_cons, List.mem_range'_1, true_and, and_true, and_false, false_and, Nat.reduceLT, Nat.reduceLeDiff, Nat.reduceAdd, true_or, or_true, if_true, if_false, ↓reduceIte, Nat.reduceEqDiff, false_or, or_false, List.not_mem_nil, List.getElem?_cons_zero, List.getElem?_cons_succ, Option.getD_some] <;> rfl, Own.nil _ _ _ _, More.refl _⟩
  rintro v w2 ⟨k, A2, c2, h13, hk, h3, ho2, hm2⟩
  simp only [hv_apply, up_apply, upO_some, upO_none, init, List.mem_cons, List.mem_range'_1, true_and, and_true, and_false, false_and, Nat.reduceLT, Nat.reduceLeDiff, Nat.reduceAdd, true_or, or_true, if_true, if_false, ↓reduceIte, Nat.reduceEqDiff, false_or, or_false, List.not_mem_nil, List.getElem?_cons_zero, List.getElem?_cons_succ, Option.getD_some] at h13 h3
  have ek : IntKind.i64.wrap ((k : Int) + 1) = ((k + 1 : Nat) : Int) := w64 (by omega) (by omega)
  simp (config := {maxSteps := 1000000}) only [↓zvN, zvU, ↓up_apply, ↓hv_apply, ↓upO_some, ↓upO_none, ↓ev_tmp, ↓ev_const, ↓ev_func, ↓ev_global, init, Nat.reduceEqDiff, Nat.reduceAdd, Nat.reduceMul, Nat.reduceSub, ↓reduceIte, Int.reduceEq, Int.reduceNe, Nat.reduceLeDiff, one, Value.cells, Int.reduceLE, Int.reduceLT, Int.reduceToNat, add_mk, reduceCtorEq, List.mem_range'_1, true_and, and_true, and_false, false_and, Nat.reduceLT, Nat.reduceLeDiff, tyF, h13, h3]
  refine ⟨fun h9 => ?_, fun h9 => ?_⟩
  rotate_left
  · obtain rfl : k = ls.length := by omega
    rw [List.take_length] at ho2
    simp only [List.take_length]
    obtain ⟨ps, hps⟩ : ∃ ps, takenM ls = ps := ⟨_, rfl⟩
    have hpo := taken_ok hT.ok
    have hpl := taken_le ls ls.length
    rw [List.take_length] at hpl
    unfold AllR
    rw [hps] at ho2 hpo hpl ⊢
    rw [List.take_length, hps] at h3
    have fin : ∀ w3, (∃ rs : List PrefM, rs.Perm ps ∧ rs.Pairwise (fun x y => ¬ plt y x) ∧ Cs w3 A2 (rs.flatMap PrefM.cells)) ∧ More w w3 → ∃ (A : Option Addr) (c : Nat) (rs : List PrefM), Value.slice A2 ps.length c2 = .slice A rs.length c ∧ rs.Perm ps ∧ rs.Pairwise (fun x y => ¬ plt y x) ∧ Cs w3 A (rs.flatMap PrefM.cells) ∧ (∀ a, A = some a → w.heap.size ≤ a.block) ∧ More w w3 := by
      rintro w3 ⟨⟨rs, h1, h2, h3⟩, h4⟩
      exact ⟨A2, c2, rs, by rw [h1.length_eq], h1, h2, h3, fun a ha => (ho2.atB_ge ⟨a, ha, rfl⟩).1, h4⟩
    rcases ho2.blk with ⟨hA, hn0⟩ | ⟨g, hA, hgB, hgl, cur, hgb⟩
    · have hnil : ps = [] := List.eq_nil_of_length_eq_zero hn0
      have hS := AnyF.slices_SortFunc_none (P := Try.prog) sortPref A2 c2 (.func (.func 70) #[] #[]) w2
      change Calls Try.prog 46 _ _ _ at hS
      refine call_ok (R := fun v w' => v = .tuple #[] ∧ w' = w2) Try.call46 (by rw [hn0]; exact Calls.mono hS fun e w' ⟨h1, h2⟩ => ⟨_, h1, rfl, h2⟩) ?_
      rintro _ w3 ⟨rfl, rfl⟩
      simp (config := {maxSteps := 1000000}) only [↓zvN, zvU, ↓up_apply, ↓hv_apply, ↓upO_some, ↓upO_none, ↓ev_tmp, ↓ev_const, ↓ev_func, ↓ev_global, init, Nat.reduceEqDiff, Nat.reduceAdd, Nat.reduceMul, Nat.reduceSub, ↓reduceIte, Int.reduceEq, Int.reduceNe, Nat.reduceLeDiff, one, Value.cells, Int.reduceLE, Int.reduceLT, Int.reduceToNat, add_mk, reduceCtorEq, List.mem_range'_1, true_and, and_true, and_false, false_and, Nat.reduceLT, Nat.reduceLeDiff, tyF, h3]
      exact fin w3 ⟨⟨ps, List.Perm.refl _, by rw [hnil]; exact List.Pairwise.nil, ho2.cs⟩, hm2⟩
    · subst hA
      have hcs := ho2.cs
      refine call_ok Try.call46 (sort_prefs _ Try.call70 table_cmp_box w2 g c2 ps hpo (by omega) hgl (fun j v hj => by
        obtain ⟨a, ha, hc⟩ := hcs j v hj
        cases ha
        rw [add_mk, Nat.zero_add] at hc
        exact ⟨hc, hgb.frozen j⟩)) ?_
      rintro _ w3 ⟨rfl, rs, h1, h2, h4, h5⟩
      simp (config := {maxSteps := 1000000}) only [↓zvN, zvU, ↓up_apply, ↓hv_apply, ↓upO_some, ↓upO_none, ↓ev_tmp, ↓ev_const, ↓ev_func, ↓ev_global, init, Nat.reduceEqDiff, Nat.reduceAdd, Nat.reduceMul, Nat.reduceSub, ↓reduceIte, Int.reduceEq, Int.reduceNe, Nat.reduceLeDiff, one, Value.cells, Int.reduceLE, Int.reduceLT, Int.reduceToNat, add_mk, reduceCtorEq, List.mem_range'_1, true_and, and_true, and_false, false_and, Nat.reduceLT, Nat.reduceLeDiff, tyF, h3]
      exact fin w3 ⟨⟨rs, h1, h2, h4⟩, more_but hm2 h5 hgB⟩
  have hil : k < ls.length := by omega
  obtain ⟨y, hy⟩ := row_nat ls k hil
  have hT2 := hT.more hm2
  have hyo := hT.ok y (List.mem_of_getElem? hy)
  have vrow := blk_elem hT2.row hT.ok.lens hy
  have g0 : (0 : Int) ≤ (k : Int) := by omega
  simp (config := {maxSteps := 1000000}) only [↓zvN, zvU, ↓up_apply, ↓hv_apply, ↓upO_some, ↓upO_none, ↓ev_tmp, ↓ev_const, ↓ev_func, ↓ev_global, init, Nat.reduceEqDiff, Nat.reduceAdd, Nat.reduceMul, Nat.reduceSub, ↓reduceIte, Int.reduceEq, Int.reduceNe, Nat.reduceLeDiff, one, Value.cells, Int.reduceLE, Int.reduceLT, Int.reduceToNat, add_mk, reduceCtorEq, List.mem_range'_1, true_and, and_true, and_false, false_and, Nat.reduceLT, Nat.reduceLeDiff, tyF, h13, h3, g0, h9, hil, vrow, Int.toNat_natCast, zerPlace_box]
  have hm7 := more_alloc w2 (.cells (PlaceM.mk 0 prefZ [.int .i64 0, .pointer none]).cells.toArray 139)
  have hb7 := Blk.new w2 139 (PlaceM.mk 0 prefZ [.int .i64 0, .pointer none]).cells.toArray
  obtain ⟨w7, hw7⟩ : ∃ w7, w2.alloc (.cells (PlaceM.mk 0 prefZ [.int .i64 0, .pointer none]).cells.toArray 139) = w7 := ⟨_, rfl⟩
  rw [hw7] at hm7 hb7 ⊢
  clear hw7
  refine st_all hb7 (by simpa using hyo.len) (by rfl) (by simpa using hyo.ones) fun w8 j1 j2 => ?_
  rw [List.toList_toArray] at j2
  have hm8 : More w2 w8 := more_but hm7 (But.of_wr j1) (Nat.le_refl _)
  have hm18 := hm2.trans hm8
  obtain ⟨qb, hqb⟩ : ∃ q, w2.heap.size = q := ⟨_, rfl⟩
  rw [hqb] at j2 ⊢
  have d0 : w8.cell? ⟨qb, 0, none⟩ = some (.int .i64 y.state) := by rw [j2.cell]; rfl
  have h8 : y.p.cells.length = 8 := by simp [PrefM.cells, hyo.pre]
  have d1 : ∀ K : Value → Prop, ldRow 8 ⟨qb, 1, none⟩ w8 K = K (.agg y.p.cells.toArray) := fun K => by
    have hl := hyo.len
    simp only [PlaceM.cells, List.length_cons, List.length_append, h8] at hl
    rw [j2.row_eq 1 8 (by simp only [PlaceM.cells, List.length_cons, List.length_append, h8]; omega)]
    congr 2
    simp only [PlaceM.cells, List.drop_succ_cons, List.drop_zero]
    rw [List.take_append_of_le_length (by omega), List.take_of_length_le (by omega)]
  have ho8 := ho2.more hm8
  have hts := taken_step hy
  have htl := taken_le ls k
  rw [s2_undef]
  by_cases h1 : y.state = 1
  · rw [if_pos h1] at hts
    simp (config := {maxSteps := 1000000}) only [↓zvN, zvU, ↓up_apply, ↓hv_apply, ↓upO_some, ↓upO_none, ↓ev_tmp, ↓ev_const, ↓ev_func, ↓ev_global, init, Nat.reduceEqDiff, Nat.reduceAdd, Nat.reduceMul, Nat.reduceSub, ↓reduceIte, Int.reduceEq, Int.reduceNe, Nat.reduceLeDiff, one, Value.cells, Int.reduceLE, Int.reduceLT, Int.reduceToNat, add_mk, reduceCtorEq, List.mem_range'_1, true_and, and_true, and_false, false_and, Nat.reduceLT, Nat.reduceLeDiff, tyF, h13, h3, d0, d1, h1]
    refine bslice1 Try.underlying39 prefE (by omega) (by omega) h8 ?_
    have hm6 := more_alloc w8 (.cells y.p.cells.toArray 24)
    have hb6 := Blk.new w8 24 y.p.cells.toArray
    have s6 := size_alloc w8 (.cells y.p.cells.toArray 24)
    simp (config := {maxSteps := 1000000}) only [↓zvN, zvU, ↓up_apply, ↓hv_apply, ↓upO_some, ↓upO_none, ↓ev_tmp, ↓ev_const, ↓ev_func, ↓ev_global, init, Nat.reduceEqDiff, Nat.reduceAdd, Nat.reduceMul, Nat.reduceSub, ↓reduceIte, Int.reduceEq, Int.reduceNe, Nat.reduceLeDiff, one, Value.cells, Int.reduceLE, Int.reduceLT, Int.reduceToNat, add_mk, reduceCtorEq, List.mem_range'_1, true_and, and_true, and_false, false_and, Nat.reduceLT, Nat.reduceLeDiff, tyF, h13, h3]
    obtain ⟨w6, hw6⟩ : ∃ w6, w8.alloc (.cells y.p.cells.toArray 24) = w6 := ⟨_, rfl⟩
    rw [hw6] at hm6 hb6 s6 ⊢
    clear hw6
    rw [List.toList_toArray] at hb6
    have hsz := hm18.size
    refine app_mod (m := 1) (news := y.p.cells) Try.underlying39 prefE rfl (by omega) (ho8.more hm6) hb6.cs (by rw [h8]) (PrefM.one _) (by simp only [maxLen]; omega) (by omega) (by omega) ?_
    intro A9 c9 w9 ho9 hmod9 hat9
    have hm9 : More w w9 := Mod.more (hm18.trans hm6) hmod9 (fun k hk h => by have := ho8.atB_ge h; omega)
    simp (config := {maxSteps := 1000000}) only [↓zvN, zvU, ↓up_apply, ↓hv_apply, ↓upO_some, ↓upO_none, ↓ev_tmp, ↓ev_const, ↓ev_func, ↓ev_global, init, Nat.reduceEqDiff, Nat.reduceAdd, Nat.reduceMul, Nat.reduceSub, ↓reduceIte, Int.reduceEq, Int.reduceNe, Nat.reduceLeDiff, one, Value.cells, Int.reduceLE, Int.reduceLT, Int.reduceToNat, add_mk, reduceCtorEq, List.mem_range'_1, true_and, and_true, and_false, false_and, Nat.reduceLT, Nat.reduceLeDiff, tyF, h13, h3, ek]
    rw [show (takenM (ls.take k)).length + 1 = (takenM (ls.take (k + 1))).length by rw [hts]; simp] at ho9 ⊢
    refine ⟨⟨?_, k + 1, A9, c9, rfl, by omega, rfl, by rw [hts] at ho9 ⊢; simpa [List.flatMap_append] using ho9, hm9⟩, by simp only [numOf]; omega⟩
    repeat (first | exact Same.hv _ _ _ | refine Same.up (by simp) ?_)
  · rw [if_neg h1, List.append_nil] at hts
    simp (config := {maxSteps := 1000000}) only [↓zvN, zvU, ↓up_apply, ↓hv_apply, ↓upO_some, ↓upO_none, ↓ev_tmp, ↓ev_const, ↓ev_func, ↓ev_global, init, Nat.reduceEqDiff, Nat.reduceAdd, Nat.reduceMul, Nat.reduceSub, ↓reduceIte, Int.reduceEq, Int.reduceNe, Nat.reduceLeDiff, one, Value.cells, Int.reduceLE, Int.reduceLT, Int.reduceToNat, add_mk, reduceCtorEq, List.mem_range'_1, true_and, and_true, and_false, false_and, Nat.reduceLT, Nat.reduceLeDiff, tyF, h13, h3, d0, d1, h1, ek]
    refine ⟨⟨?_, k + 1, A2, c2, rfl, by omega, by rw [hts], by rw [hts]; exact ho8, hm18⟩, by simp only [numOf]; omega⟩
    repeat (first | exact Same.hv _ _ _ | refine Same.up (by simp) ?_)
end Go.Proofs.Ytimhcjakpdebjaa
