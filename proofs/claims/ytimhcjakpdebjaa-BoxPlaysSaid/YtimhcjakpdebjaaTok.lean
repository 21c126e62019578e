/-
  Layers 1 and 17: products of counts, tokens.
-/
import Derived.Test.YtimhcjakpdebjaaRef01A
import Derived.Test.YtimhcjakpdebjaaNew
import Derived.Test.YtimhcjakpdebjaaXt
namespace Go.Proofs.Ytimhcjakpdebjaa
open Go Go.RowKit Go.Proofs.RV
set_option linter.unusedSimpArgs false
set_option linter.unusedVariables false
set_option maxRecDepth 10000
set_option maxHeartbeats 4000000
def mulM (a b : Int) : Int := min (countM a * countM b) 4611686018427387904
theorem mulM_range (a b : Int) : 0 ≤ mulM a b ∧ mulM a b ≤ 4611686018427387904 := by
  have h := Int.mul_nonneg (countM_range a).1 (countM_range b).1
  unfold mulM; omega
theorem num_mul (w : World) (a b : Int) : Ret Try.prog 87 #[.int .i64 a, .int .i64 b] w fun v w' => v = .int .i64 (mulM a b) ∧ w' = w := by
  refine ret_of Try.func87 rfl (by kernel_rfl) (Nat.le_of_ble_eq_true (by kernel_rfl)) ?_
  simp (config := {maxSteps := 1000000}) only [↓zvN, zvU, ↓up_apply, ↓hv_apply, ↓upO_some, ↓upO_none, ↓ev_tmp, ↓ev_const, ↓ev_func, ↓ev_global, init, Nat.reduceEqDiff, Nat.reduceAdd, Nat.reduceMul, Nat.reduceSub, ↓reduceIte, Int.reduceEq, Int.reduceNe, Nat.reduceLeDiff, one, Value.cells, Int.reduceLE, Int.reduceLT, Int.reduceToNat, add_mk, reduceCtorEq, List.mem_range'_1, true_and, and_true, and_false, false_and, Nat.reduceLT, Nat.reduceLeDiff, tyF]
  refine call_ok Try.call68 (num_count w a) ?_
  rintro _ w1 ⟨rfl, rfl⟩
  simp (config := {maxSteps := 1000000}) only [↓zvN, zvU, ↓up_apply, ↓hv_apply, ↓upO_some, ↓upO_none, ↓ev_tmp, ↓ev_const, ↓ev_func, ↓ev_global, init, Nat.reduceEqDiff, Nat.reduceAdd, Nat.reduceMul, Nat.reduceSub, ↓reduceIte, Int.reduceEq, Int.reduceNe, Nat.reduceLeDiff, one, Value.cells, Int.reduceLE, Int.reduceLT, Int.reduceToNat, add_mk, reduceCtorEq, List.mem_range'_1, true_and, and_true, and_false, false_and, Nat.reduceLT, Nat.reduceLeDiff, tyF]
  refine call_ok Try.call68 (num_count w1 b) ?_
  rintro _ w2 ⟨rfl, rfl⟩
  have ha := countM_range a
  have hb := countM_range b
  unfold mulM
  obtain ⟨x, hx⟩ : ∃ x, countM a = x := ⟨_, rfl⟩
  obtain ⟨y, hy⟩ : ∃ y, countM b = y := ⟨_, rfl⟩
  rw [hx] at ha ⊢
  rw [hy] at hb ⊢
  by_cases h1 : x = 0
  · subst h1
    simp (config := {maxSteps := 1000000}) only [↓zvN, zvU, ↓up_apply, ↓hv_apply, ↓upO_some, ↓upO_none, ↓ev_tmp, ↓ev_const, ↓ev_func, ↓ev_global, init, Nat.reduceEqDiff, Nat.reduceAdd, Nat.reduceMul, Nat.reduceSub, ↓reduceIte, Int.reduceEq, Int.reduceNe, Nat.reduceLeDiff, one, Value.cells, Int.reduceLE, Int.reduceLT, Int.reduceToNat, add_mk, reduceCtorEq, List.mem_range'_1, true_and, and_true, and_false, false_and, Nat.reduceLT, Nat.reduceLeDiff, tyF]
    simp
    try omega
  by_cases h2 : y = 0
  · subst h2
    simp (config := {maxSteps := 1000000}) only [↓zvN, zvU, ↓up_apply, ↓hv_apply, ↓upO_some, ↓upO_none, ↓ev_tmp, ↓ev_const, ↓ev_func, ↓ev_global, init, Nat.reduceEqDiff, Nat.reduceAdd, Nat.reduceMul, Nat.reduceSub, ↓reduceIte, Int.reduceEq, Int.reduceNe, Nat.reduceLeDiff, one, Value.cells, Int.reduceLE, Int.reduceLT, Int.reduceToNat, add_mk, reduceCtorEq, List.mem_range'_1, true_and, and_true, and_false, false_and, Nat.reduceLT, Nat.reduceLeDiff, tyF, h1]
    simp
    try omega
  have eq : Int.tdiv 4611686018427387904 y = 4611686018427387904 / y := Int.tdiv_eq_ediv_of_nonneg (by omega)
  have hq0 : 0 ≤ 4611686018427387904 / y := Int.ediv_nonneg (by omega) (by omega)
  have hq1 : 4611686018427387904 / y ≤ 4611686018427387904 := Int.ediv_le_self _ (by omega)
  have ew : IntKind.i64.wrap (4611686018427387904 / y) = 4611686018427387904 / y := w64 (by omega) (by omega)
  have hdm := Int.mul_ediv_add_emod 4611686018427387904 y
  have hm0 := Int.emod_nonneg 4611686018427387904 h2
  have hm1 := Int.emod_lt_of_pos 4611686018427387904 (show 0 < y by omega)
  by_cases h3 : 4611686018427387904 / y < x
  · have hb2 : y * (4611686018427387904 / y + 1) ≤ y * x := Int.mul_le_mul_of_nonneg_left (by omega) (by omega)
    rw [Int.mul_add, Int.mul_one] at hb2
    have hc : x * y = y * x := Int.mul_comm x y
    simp (config := {maxSteps := 1000000}) only [↓zvN, zvU, ↓up_apply, ↓hv_apply, ↓upO_some, ↓upO_none, ↓ev_tmp, ↓ev_const, ↓ev_func, ↓ev_global, init, Nat.reduceEqDiff, Nat.reduceAdd, Nat.reduceMul, Nat.reduceSub, ↓reduceIte, Int.reduceEq, Int.reduceNe, Nat.reduceLeDiff, one, Value.cells, Int.reduceLE, Int.reduceLT, Int.reduceToNat, add_mk, reduceCtorEq, List.mem_range'_1, true_and, and_true, and_false, false_and, Nat.reduceLT, Nat.reduceLeDiff, tyF, h1, h2, eq, ew, h3]
    congr 1
    omega
  · have hb2 : y * x ≤ y * (4611686018427387904 / y) := Int.mul_le_mul_of_nonneg_left (by omega) (by omega)
    have hc : x * y = y * x := Int.mul_comm x y
    have h0 : 0 ≤ x * y := Int.mul_nonneg (by omega) (by omega)
    have em : IntKind.i64.wrap (x * y) = x * y := w64 (by omega) (by omega)
    simp (config := {maxSteps := 1000000}) only [↓zvN, zvU, ↓up_apply, ↓hv_apply, ↓upO_some, ↓upO_none, ↓ev_tmp, ↓ev_const, ↓ev_func, ↓ev_global, init, Nat.reduceEqDiff, Nat.reduceAdd, Nat.reduceMul, Nat.reduceSub, ↓reduceIte, Int.reduceEq, Int.reduceNe, Nat.reduceLeDiff, one, Value.cells, Int.reduceLE, Int.reduceLT, Int.reduceToNat, add_mk, reduceCtorEq, List.mem_range'_1, true_and, and_true, and_false, false_and, Nat.reduceLT, Nat.reduceLeDiff, tyF, h1, h2, eq, ew, h3, em]
    congr 1
    omega
/-- tokens -/
structure TokM where
  rate : Int
  most : Int
  level : Int
  now : Int
def TokM.cells (t : TokM) : List Value := [.int .i64 t.rate, .int .i64 t.most, .int .i64 t.level, .int .i64 t.now]
structure TokM.Ok (t : TokM) : Prop where
  r0 : 0 ≤ t.rate
  r1 : t.rate ≤ 1073741824
  m0 : 0 ≤ t.most
  m1 : t.most ≤ 1125899906842624
  l0 : 0 ≤ t.level
  l1 : t.level ≤ t.most
  n0 : 0 ≤ t.now
def TokM.at_ (t : TokM) (now : Int) : Int := if now ≤ t.now then t.level else min t.most (addM t.level (mulM (now - t.now) t.rate))
theorem TokM.at_range {t : TokM} (h : t.Ok) (now : Int) : 0 ≤ t.at_ now ∧ t.at_ now ≤ t.most := by
  have h1 := h.l0; have h2 := h.l1; have h3 := h.m0
  have h4 := addM_range t.level (mulM (now - t.now) t.rate)
  unfold TokM.at_
  split <;> omega
def TokM.upto (t : TokM) (now : Int) : TokM := { t with level := t.at_ now, now := max t.now now }
def TokM.can (t : TokM) (now n : Int) : Bool := decide (0 ≤ n ∧ n ≤ 1073741824 ∧ n * 1048576 ≤ t.at_ now)
def TokM.take (t : TokM) (now n : Int) : TokM := if t.can now n = true then { t.upto now with level := t.at_ now - n * 1048576 } else t.upto now
theorem TokM.upto_ok {t : TokM} (h : t.Ok) (now : Int) : (t.upto now).Ok := by
  have := TokM.at_range h now
  have h0 := h.n0
  exact ⟨h.r0, h.r1, h.m0, h.m1, this.1, this.2, by show 0 ≤ max t.now now; omega⟩
theorem TokM.take_ok {t : TokM} (h : t.Ok) (now n : Int) : (t.take now n).Ok := by
  have h1 := TokM.upto_ok h now
  unfold TokM.take
  split
  · rename_i hc
    have hc := of_decide_eq_true hc
    have h2 := TokM.at_range h now
    exact ⟨h1.r0, h1.r1, h1.m0, h1.m1, by show 0 ≤ t.at_ now - n * 1048576; omega, by show t.at_ now - n * 1048576 ≤ t.most; omega, h1.n0⟩
  · exact h1
theorem int64E2 : ElemT Try.prog 2 (.int .i64 0) 1 8 := by unfold ElemT; kernel_rfl
theorem token_at (w : World) (q : Nat) (t : TokM) (now : Int) (hb : Blk w q 137 t.cells) (ht : t.Ok) (hn : now ≤ 9223372036854775807) :
    Ret Try.prog 69 #[.pointer (some ⟨q, 0, none⟩), .int .i64 now] w fun v w' => v = .int .i64 (t.at_ now) ∧ More w w' := by
  refine ret_of Try.func69 rfl (by kernel_rfl) (Nat.le_of_ble_eq_true (by kernel_rfl)) ?_
  have c0 := hb.cell 0
  have c1 := hb.cell 1
  have c2 := hb.cell 2
  have c3 := hb.cell 3
  have hlt := hb.lt
  simp only [TokM.cells, List.getElem?_cons_zero, List.getElem?_cons_succ] at c0 c1 c2 c3
  unfold TokM.at_
  by_cases h : now ≤ t.now
  · rw [if_pos h]
    simp (config := {maxSteps := 1000000}) only [↓zvN, zvU, ↓up_apply, ↓hv_apply, ↓upO_some, ↓upO_none, ↓ev_tmp, ↓ev_const, ↓ev_func, ↓ev_global, init, Nat.reduceEqDiff, Nat.reduceAdd, Nat.reduceMul, Nat.reduceSub, ↓reduceIte, Int.reduceEq, Int.reduceNe, Nat.reduceLeDiff, one, Value.cells, Int.reduceLE, Int.reduceLT, Int.reduceToNat, add_mk, reduceCtorEq, List.mem_range'_1, true_and, and_true, and_false, false_and, Nat.reduceLT, Nat.reduceLeDiff, tyF, c2, c3, h]
    exact More.refl _
  · rw [if_neg h]
    have h0 := ht.n0
    have es : IntKind.i64.wrap (now - t.now) = now - t.now := w64 (by omega) (by omega)
    simp (config := {maxSteps := 1000000}) only [↓zvN, zvU, ↓up_apply, ↓hv_apply, ↓upO_some, ↓upO_none, ↓ev_tmp, ↓ev_const, ↓ev_func, ↓ev_global, init, Nat.reduceEqDiff, Nat.reduceAdd, Nat.reduceMul, Nat.reduceSub, ↓reduceIte, Int.reduceEq, Int.reduceNe, Nat.reduceLeDiff, one, Value.cells, Int.reduceLE, Int.reduceLT, Int.reduceToNat, add_mk, reduceCtorEq, List.mem_range'_1, true_and, and_true, and_false, false_and, Nat.reduceLT, Nat.reduceLeDiff, tyF, c2, c3, h]
    refine draw_line w.heap.size More [0, 0, 0, 0, 0, 0, 0, 0, 0, 0, 0, 0, 0, 0, 0, 0, 0, 0, 1, 1, 1, 0, 0] [[], [0], [0, 1], [0, 1, 2], [], [4], [4, 5], [4, 5, 6], [], [], [9], [9, 10], [9, 10, 11], [8, 9, 10, 11, 12], [], [14], [14, 15], [14, 15, 16], [8, 9, 10, 11, 12, 13, 14, 15, 16, 17], [4, 5, 6, 7, 8, 9, 10, 11, 12, 13, 14, 15, 16, 17, 18], [4, 5, 6, 7, 8, 9, 10, 11, 12, 13, 14, 15, 16, 17, 18, 19], [0, 1, 2, 3, 4, 5, 6, 7, 8, 9, 10, 11, 12, 13, 14, 15, 16, 17, 18, 19, 20], [0, 1, 2, 3, 4, 5, 6, 7, 8, 9, 10, 11, 12, 13, 14, 15, 16, 17, 18, 19, 20, 21]] mixed (by kernel_rfl) (by kernel_rfl) (More.refl _) (fun w' h => h) (fun w' h => h) ?_
    intro w1 hm1
    simp (config := {maxSteps := 1000000}) only [↓zvN, zvU, ↓zqD, ↓sk_nil, ↓sk_cons, ↓sk_guard, ↓sk_zero, ↓sk_one, ↓sk_two, ↓up_apply, ↓hv_apply, ↓upO_some, ↓upO_none, ↓ev_tmp, ↓ev_const, ↓ev_func, ↓ev_global, init, Nat.reduceEqDiff, Nat.reduceAdd, Nat.reduceMul, Nat.reduceSub, ↓reduceIte, Int.reduceEq, Int.reduceNe, Nat.reduceLeDiff, one, Value.cells, Int.reduceLE, Int.reduceLT, Int.reduceToNat, add_mk, reduceCtorEq, List.mem_range'_1, true_and, and_true, and_false, false_and, Nat.reduceLT, Nat.reduceLeDiff, tyF, c0, c1, c2, c3, es, hlt]
    refine call_ok Try.call87 (num_mul w1 (now - t.now) t.rate) ?_
    rintro _ w2 ⟨rfl, rfl⟩
    simp (config := {maxSteps := 1000000}) only [↓zvN, zvU, ↓zqD, ↓sk_nil, ↓sk_cons, ↓sk_guard, ↓sk_zero, ↓sk_one, ↓sk_two, ↓up_apply, ↓hv_apply, ↓upO_some, ↓upO_none, ↓ev_tmp, ↓ev_const, ↓ev_func, ↓ev_global, init, Nat.reduceEqDiff, Nat.reduceAdd, Nat.reduceMul, Nat.reduceSub, ↓reduceIte, Int.reduceEq, Int.reduceNe, Nat.reduceLeDiff, one, Value.cells, Int.reduceLE, Int.reduceLT, Int.reduceToNat, add_mk, reduceCtorEq, List.mem_range'_1, true_and, and_true, and_false, false_and, Nat.reduceLT, Nat.reduceLeDiff, tyF]
    refine ⟨hm1, ?_⟩
    obtain ⟨m, hm⟩ : ∃ m, mulM (now - t.now) t.rate = m := ⟨_, rfl⟩
    rw [hm]
    refine bslice (z := .int .i64 0) (cells := #[.int .i64 t.level, .int .i64 m]) Try.underlying69 int64E2 (by omega) (by have := bcells_list (z := .int .i64 0) [.int .i64 t.level, .int .i64 m] (by intro v hv; simp at hv; rcases hv with rfl | rfl <;> rfl); exact this) ?_
    have hm3 := more_alloc w2 (.cells #[.int .i64 t.level, .int .i64 m] 2)
    have hb3 := Blk.new w2 2 #[.int .i64 t.level, .int .i64 m]
    obtain ⟨w3, hw3⟩ : ∃ w3, w2.alloc (.cells #[.int .i64 t.level, .int .i64 m] 2) = w3 := ⟨_, rfl⟩
    rw [hw3] at hm3 hb3 ⊢
    simp (config := {maxSteps := 1000000}) only [↓zvN, zvU, ↓zqD, ↓sk_nil, ↓sk_cons, ↓sk_guard, ↓sk_zero, ↓sk_one, ↓sk_two, ↓up_apply, ↓hv_apply, ↓upO_some, ↓upO_none, ↓ev_tmp, ↓ev_const, ↓ev_func, ↓ev_global, init, Nat.reduceEqDiff, Nat.reduceAdd, Nat.reduceMul, Nat.reduceSub, ↓reduceIte, Int.reduceEq, Int.reduceNe, Nat.reduceLeDiff, one, Value.cells, Int.reduceLE, Int.reduceLT, Int.reduceToNat, add_mk, reduceCtorEq, List.mem_range'_1, true_and, and_true, and_false, false_and, Nat.reduceLT, Nat.reduceLeDiff, tyF]
    refine ⟨hm1.trans hm3, ?_⟩
    refine call_ok Try.call54 (num_add w3 t.level m _ hb3) ?_
    rintro _ w4 ⟨rfl, rfl⟩
    simp (config := {maxSteps := 1000000}) only [↓zvN, zvU, ↓zqD, ↓sk_nil, ↓sk_cons, ↓sk_guard, ↓sk_zero, ↓sk_one, ↓sk_two, ↓up_apply, ↓hv_apply, ↓upO_some, ↓upO_none, ↓ev_tmp, ↓ev_const, ↓ev_func, ↓ev_global, init, Nat.reduceEqDiff, Nat.reduceAdd, Nat.reduceMul, Nat.reduceSub, ↓reduceIte, Int.reduceEq, Int.reduceNe, Nat.reduceLeDiff, one, Value.cells, Int.reduceLE, Int.reduceLT, Int.reduceToNat, add_mk, reduceCtorEq, List.mem_range'_1, true_and, and_true, and_false, false_and, Nat.reduceLT, Nat.reduceLeDiff, tyF, c0, c1, c2, c3]
    refine ⟨hm1.trans hm3, ?_, hm1.trans hm3⟩
    congr 1
    split <;> omega
theorem token_take (w : World) (q : Nat) (t : TokM) (now n : Int) (hb : Blk w q 137 t.cells) (ht : t.Ok) (hn : now ≤ 9223372036854775807) (hn2 : n ≤ 9223372036854775807) :
    Ret Try.prog 55 #[.pointer (some ⟨q, 0, none⟩), .int .i64 now, .int .i64 n] w fun v w' => v = .bool (t.can now n) ∧ Blk w' q 137 (t.take now n).cells ∧ But q w w' := by
  refine ret_of Try.func55 rfl (by kernel_rfl) (Nat.le_of_ble_eq_true (by kernel_rfl)) ?_
  have hr := TokM.at_range ht now
  have hm1' := ht.m1
  have h0 := ht.n0
  simp (config := {maxSteps := 1000000}) only [↓zvN, zvU, ↓up_apply, ↓hv_apply, ↓upO_some, ↓upO_none, ↓ev_tmp, ↓ev_const, ↓ev_func, ↓ev_global, init, Nat.reduceEqDiff, Nat.reduceAdd, Nat.reduceMul, Nat.reduceSub, ↓reduceIte, Int.reduceEq, Int.reduceNe, Nat.reduceLeDiff, one, Value.cells, Int.reduceLE, Int.reduceLT, Int.reduceToNat, add_mk, reduceCtorEq, List.mem_range'_1, true_and, and_true, and_false, false_and, Nat.reduceLT, Nat.reduceLeDiff, tyF]
  refine call_ok Try.call69 (token_at w q t now hb ht hn) ?_
  rintro _ w1 ⟨rfl, hm1⟩
  have hup : t.upto now = { t with level := t.at_ now, now := max t.now now } := rfl
  have htk : t.take now n = if t.can now n = true then { t.upto now with level := t.at_ now - n * 1048576 } else t.upto now := rfl
  have hcan : t.can now n = decide (0 ≤ n ∧ n ≤ 1073741824 ∧ n * 1048576 ≤ t.at_ now) := rfl
  obtain ⟨lv, hlv⟩ : ∃ lv, t.at_ now = lv := ⟨_, rfl⟩
  rw [hlv] at hr hup htk hcan ⊢
  have hb1 := hb.more hm1
  simp (config := {maxSteps := 1000000}) only [↓zvN, zvU, ↓up_apply, ↓hv_apply, ↓upO_some, ↓upO_none, ↓ev_tmp, ↓ev_const, ↓ev_func, ↓ev_global, init, Nat.reduceEqDiff, Nat.reduceAdd, Nat.reduceMul, Nat.reduceSub, ↓reduceIte, Int.reduceEq, Int.reduceNe, Nat.reduceLeDiff, one, Value.cells, Int.reduceLE, Int.reduceLT, Int.reduceToNat, add_mk, reduceCtorEq, List.mem_range'_1, true_and, and_true, and_false, false_and, Nat.reduceLT, Nat.reduceLeDiff, tyF]
  refine st_cell hb1 (by simp [TokM.cells]) rfl fun w2 i1 i2 => ?_
  rw [s2_undef]
  replace i2 : Blk w2 q 137 (TokM.mk t.rate t.most lv t.now).cells := i2
  have c3 := i2.cell 3
  simp only [TokM.cells, List.getElem?_cons_zero, List.getElem?_cons_succ] at c3
  have emax : (if t.now < now then now else t.now) = max t.now now := by split <;> omega
  simp (config := {maxSteps := 1000000}) only [↓zvN, zvU, ↓up_apply, ↓hv_apply, ↓upO_some, ↓upO_none, ↓ev_tmp, ↓ev_const, ↓ev_func, ↓ev_global, init, Nat.reduceEqDiff, Nat.reduceAdd, Nat.reduceMul, Nat.reduceSub, ↓reduceIte, Int.reduceEq, Int.reduceNe, Nat.reduceLeDiff, one, Value.cells, Int.reduceLE, Int.reduceLT, Int.reduceToNat, add_mk, reduceCtorEq, List.mem_range'_1, true_and, and_true, and_false, false_and, Nat.reduceLT, Nat.reduceLeDiff, tyF, c3, emax]
  refine st_cell i2 (by simp [TokM.cells]) rfl fun w3 j1 j2 => ?_
  rw [s2_undef]
  replace j2 : Blk w3 q 137 (t.upto now).cells := by rw [hup]; exact j2
  have c2 := j2.cell 2
  rw [hup] at c2
  simp only [TokM.cells, List.getElem?_cons_zero, List.getElem?_cons_succ] at c2
  have hbt : But q w w3 := ((But.of_more hm1).trans (But.of_wr i1)).trans (But.of_wr j1)
  by_cases h1 : n < 0
  · have hc : t.can now n = false := by rw [hcan]; exact decide_eq_false (by omega)
    rw [htk, hc]
    simp (config := {maxSteps := 1000000}) only [↓zvN, zvU, ↓up_apply, ↓hv_apply, ↓upO_some, ↓upO_none, ↓ev_tmp, ↓ev_const, ↓ev_func, ↓ev_global, init, Nat.reduceEqDiff, Nat.reduceAdd, Nat.reduceMul, Nat.reduceSub, ↓reduceIte, Int.reduceEq, Int.reduceNe, Nat.reduceLeDiff, one, Value.cells, Int.reduceLE, Int.reduceLT, Int.reduceToNat, add_mk, reduceCtorEq, List.mem_range'_1, true_and, and_true, and_false, false_and, Nat.reduceLT, Nat.reduceLeDiff, tyF, h1]
    exact ⟨j2, hbt⟩
  by_cases h2 : 1073741824 < n
  · have hc : t.can now n = false := by rw [hcan]; exact decide_eq_false (by omega)
    rw [htk, hc]
    simp (config := {maxSteps := 1000000}) only [↓zvN, zvU, ↓up_apply, ↓hv_apply, ↓upO_some, ↓upO_none, ↓ev_tmp, ↓ev_const, ↓ev_func, ↓ev_global, init, Nat.reduceEqDiff, Nat.reduceAdd, Nat.reduceMul, Nat.reduceSub, ↓reduceIte, Int.reduceEq, Int.reduceNe, Nat.reduceLeDiff, one, Value.cells, Int.reduceLE, Int.reduceLT, Int.reduceToNat, add_mk, reduceCtorEq, List.mem_range'_1, true_and, and_true, and_false, false_and, Nat.reduceLT, Nat.reduceLeDiff, tyF, h1, h2]
    exact ⟨j2, hbt⟩
  have es : IntKind.i64.wrap (n * 1048576) = n * 1048576 := w64 (by omega) (by omega)
  have hs := shl20 n
  by_cases h3 : lv < n * 1048576
  · have hc : t.can now n = false := by rw [hcan]; exact decide_eq_false (by omega)
    rw [htk, hc]
    simp (config := {maxSteps := 1000000}) only [↓zvN, zvU, ↓up_apply, ↓hv_apply, ↓upO_some, ↓upO_none, ↓ev_tmp, ↓ev_const, ↓ev_func, ↓ev_global, init, Nat.reduceEqDiff, Nat.reduceAdd, Nat.reduceMul, Nat.reduceSub, ↓reduceIte, Int.reduceEq, Int.reduceNe, Nat.reduceLeDiff, one, Value.cells, Int.reduceLE, Int.reduceLT, Int.reduceToNat, add_mk, reduceCtorEq, List.mem_range'_1, true_and, and_true, and_false, false_and, Nat.reduceLT, Nat.reduceLeDiff, tyF, h1, h2, hs, es, c2, h3]
    exact ⟨j2, hbt⟩
  · have hc : t.can now n = true := by rw [hcan]; exact decide_eq_true (by omega)
    have ed : IntKind.i64.wrap (lv - n * 1048576) = lv - n * 1048576 := w64 (by omega) (by omega)
    rw [htk, hc, if_pos rfl]
    simp (config := {maxSteps := 1000000}) only [↓zvN, zvU, ↓up_apply, ↓hv_apply, ↓upO_some, ↓upO_none, ↓ev_tmp, ↓ev_const, ↓ev_func, ↓ev_global, init, Nat.reduceEqDiff, Nat.reduceAdd, Nat.reduceMul, Nat.reduceSub, ↓reduceIte, Int.reduceEq, Int.reduceNe, Nat.reduceLeDiff, one, Value.cells, Int.reduceLE, Int.reduceLT, Int.reduceToNat, add_mk, reduceCtorEq, List.mem_range'_1, true_and, and_true, and_false, false_and, Nat.reduceLT, Nat.reduceLeDiff, tyF, h1, h2, hs, es, c2, h3, ed]
    refine st_cell j2 (by simp [TokM.cells]) rfl fun w4 k1 k2 => ?_
    rw [s2_undef]
    simp (config := {maxSteps := 1000000}) only [↓zvN, zvU, ↓up_apply, ↓hv_apply, ↓upO_some, ↓upO_none, ↓ev_tmp, ↓ev_const, ↓ev_func, ↓ev_global, init, Nat.reduceEqDiff, Nat.reduceAdd, Nat.reduceMul, Nat.reduceSub, ↓reduceIte, Int.reduceEq, Int.reduceNe, Nat.reduceLeDiff, one, Value.cells, Int.reduceLE, Int.reduceLT, Int.reduceToNat, add_mk, reduceCtorEq, List.mem_range'_1, true_and, and_true, and_false, false_and, Nat.reduceLT, Nat.reduceLeDiff, tyF]
    exact ⟨k2, hbt.trans (But.of_wr k1)⟩
end Go.Proofs.Ytimhcjakpdebjaa
