/-
  Layers 1 and 17: the document's products, and its tokens.
-/
import Derived.Test.YtimhcjakpdebjaaLaw22S
namespace Go.Proofs.Ytimhcjakpdebjaa
open Go Go.RowKit Go.Proofs.RV
set_option linter.unusedSimpArgs false
set_option linter.unusedVariables false
set_option maxRecDepth 10000
set_option maxHeartbeats 4000000
theorem countM_id {x : Int} (h0 : 0 ≤ x) (h1 : x ≤ 4611686018427387904) : countM x = x := by unfold countM; omega
theorem addM_id {x y : Int} (h0 : 0 ≤ x) (h1 : x ≤ 4611686018427387904) (h2 : 0 ≤ y) (h3 : y ≤ 4611686018427387904) : addM x y = min (x + y) 4611686018427387904 := by unfold addM; rw [countM_id h0 h1, countM_id h2 h3]
def MulJ (R : Int) (w : World) (v0 v1 v5 : Value) (w' : World) : Prop :=
  ∃ a b o : Int, v0 = .int .i64 a ∧ v1 = .int .i64 b ∧ v5 = .int .i64 o ∧ 0 ≤ a ∧ a ≤ 4611686018427387904 ∧ 0 ≤ b ∧ b ≤ 4611686018427387904 ∧ 0 ≤ o ∧ o ≤ 4611686018427387904 ∧ min (o + a * b) 4611686018427387904 = R ∧ w' = w
theorem mul_step {a b o C : Int} (ha : 0 ≤ a) (ha2 : a ≤ C) (hb : 0 < b) (ho : 0 ≤ o) (ho2 : o ≤ C) (hC : 0 ≤ C) :
    min ((if b % 2 = 1 then min (o + a) C else o) + min (a + a) C * (b / 2)) C = min (o + a * b) C := by
  obtain ⟨h, e, he, he2⟩ : ∃ h e : Int, b = 2 * h + e ∧ (e = 0 ∨ e = 1) := ⟨b / 2, b % 2, by omega, by omega⟩
  have hh : 0 ≤ h := by omega
  have hd : b / 2 = h := by omega
  have hm : b % 2 = e := by omega
  have hab : a * b = 2 * (a * h) + a * e := by rw [he, Int.mul_add, ← Int.mul_assoc, Int.mul_comm a 2, Int.mul_assoc]
  have h0 : 0 ≤ a * h := Int.mul_nonneg ha hh
  rw [hd, hm, hab]
  have key : min (a + a) C * h = 2 * (a * h) ∨ (C ≤ min (a + a) C * h ∧ C ≤ 2 * (a * h)) ∨ (h = 0) := by
    by_cases h1 : a + a ≤ C
    · left
      rw [show min (a + a) C = a + a by omega, Int.add_mul]
      omega
    · by_cases h2 : h = 0
      · exact .inr (.inr h2)
      · right; left
        have h3 : C * 1 ≤ C * h := Int.mul_le_mul_of_nonneg_left (by omega) hC
        have h4 : C * h ≤ (a + a) * h := Int.mul_le_mul_of_nonneg_right (by omega) hh
        rw [Int.add_mul] at h4
        rw [show min (a + a) C = C by omega]
        omega
  obtain ⟨X, hX⟩ : ∃ X, min (a + a) C * h = X := ⟨_, rfl⟩
  have hX0 : 0 ≤ X := by rw [← hX]; exact Int.mul_nonneg (by omega) hh
  have hz : h = 0 → X = 0 := fun h1 => by rw [← hX, h1, Int.mul_zero]
  have hz2 : h = 0 → a * h = 0 := fun h1 => by rw [h1, Int.mul_zero]
  rw [hX] at key ⊢
  rcases he2 with rfl | rfl
  · rw [if_neg (by omega), Int.mul_zero]
    rcases key with k | k | k
    · omega
    · omega
    · rw [hz k, hz2 k]; omega
  · rw [if_pos rfl, Int.mul_one]
    rcases key with k | k | k
    · omega
    · omega
    · rw [hz k, hz2 k]; omega
theorem ref_mul (w : World) (a b : Int) : Ret Try.prog 88 #[.int .i64 a, .int .i64 b] w fun v w' => v = .int .i64 (mulM a b) ∧ w' = w := by
  refine ret_of Try.func88 rfl (by kernel_rfl) (Nat.le_of_ble_eq_true (by kernel_rfl)) ?_
  simp (config := {maxSteps := 1000000}) only [↓zvN, zvU, ↓up_apply, ↓hv_apply, ↓upO_some, ↓upO_none, ↓ev_tmp, ↓ev_const, ↓ev_func, ↓ev_global, init, Nat.reduceEqDiff, Nat.reduceAdd, Nat.reduceMul, Nat.reduceSub, ↓reduceIte, Int.reduceEq, Int.reduceNe, Nat.reduceLeDiff, one, Value.cells, Int.reduceLE, Int.reduceLT, Int.reduceToNat, add_mk, reduceCtorEq, List.mem_range'_1, true_and, and_true, and_false, false_and, Nat.reduceLT, Nat.reduceLeDiff, tyF]
  refine call_ok Try.call71 (ref_count w a) ?_
  rintro _ w1 ⟨rfl, rfl⟩
  simp (config := {maxSteps := 1000000}) only [↓zvN, zvU, ↓up_apply, ↓hv_apply, ↓upO_some, ↓upO_none, ↓ev_tmp, ↓ev_const, ↓ev_func, ↓ev_global, init, Nat.reduceEqDiff, Nat.reduceAdd, Nat.reduceMul, Nat.reduceSub, ↓reduceIte, Int.reduceEq, Int.reduceNe, Nat.reduceLeDiff, one, Value.cells, Int.reduceLE, Int.reduceLT, Int.reduceToNat, add_mk, reduceCtorEq, List.mem_range'_1, true_and, and_true, and_false, false_and, Nat.reduceLT, Nat.reduceLeDiff, tyF]
  refine call_ok Try.call71 (ref_count w1 b) ?_
  rintro _ w2 ⟨rfl, rfl⟩
  have ha := countM_range a
  have hb := countM_range b
  simp (config := {maxSteps := 1000000}) only [↓zvN, zvU, ↓up_apply, ↓hv_apply, ↓upO_some, ↓upO_none, ↓ev_tmp, ↓ev_const, ↓ev_func, ↓ev_global, init, Nat.reduceEqDiff, Nat.reduceAdd, Nat.reduceMul, Nat.reduceSub, ↓reduceIte, Int.reduceEq, Int.reduceNe, Nat.reduceLeDiff, one, Value.cells, Int.reduceLE, Int.reduceLT, Int.reduceToNat, add_mk, reduceCtorEq, List.mem_range'_1, true_and, and_true, and_false, false_and, Nat.reduceLT, Nat.reduceLeDiff, tyF]
  obtain ⟨R, hR⟩ : ∃ R, mulM a b = R := ⟨_, rfl⟩
  rw [hR]
  have hR0 : min (0 + countM a * countM b) 4611686018427387904 = R := by rw [← hR, Int.zero_add]; rfl
  refine loop_p (0 :: 1 :: 5 :: List.range' 10 13) (fun e w' => MulJ R w2 (e 0) (e 1) (e 5) w') (fun e _ => (numOf (e 1)).toNat) ?_ ?_
  · exact ⟨countM a, countM b, 0, by simp only [hv_apply, up_apply, upO_some, upO_none, init, List.mem_cons, List.mem_range'_1, true_and, and_true, and_false, false_and, Nat.reduceLT, Nat.reduceLeDiff, Nat.reduceAdd, true_or, or_true, if_true, if_false, ↓reduceIte, Nat.reduceEqDiff, false_or, or_false, List.not_mem_nil, List.getElem?_cons_zero, List.getElem?_cons_succ, Option.getD_some] <;> rfl, by simp only [hv_apply, up_apply, upO_some, upO_none, init, List.mem_cons, List.mem_range'_1, true_and, and_true, and_false, false_and, Nat.reduceLT, Nat.reduceLeDiff, Nat.reduceAdd, true_or, or_true, if_true, if_false, ↓reduceIte, Nat.reduceEqDiff, false_or, or_false, List.not_mem_nil, List.getElem?_cons_zero, List.getElem?_cons_succ, Option.getD_some] <;> rfl, by simp only [hv_apply, up_apply, upO_some, upO_none, init, List.mem_cons, List.mem_range'_1, true_and, and_true, and_false, false_and, Nat.reduceLT, Nat.reduceLeDiff, Nat.reduceAdd, true_or, or_true, if_true, if_false, ↓reduceIte, Nat.reduceEqDiff, false_or, or_false, List.not_mem_nil, List.getElem?_cons_zero, List.getElem?_cons_succ, Option.getD_some] <;> rfl, ha.1, ha.2, hb.1, hb.2, by omega, by omega, hR0, rfl⟩
  rintro v w3 ⟨x, y, o, h0, h1, h5, x0, x1, y0, y1, o0, o1, hinv, rfl⟩
  simp only [hv_apply, up_apply, upO_some, upO_none, init, List.mem_cons, List.mem_range'_1, true_and, and_true, and_false, false_and, Nat.reduceLT, Nat.reduceLeDiff, Nat.reduceAdd, true_or, or_true, if_true, if_false, ↓reduceIte, Nat.reduceEqDiff, false_or, or_false, List.not_mem_nil, List.getElem?_cons_zero, List.getElem?_cons_succ, Option.getD_some] at h0 h1 h5
  simp (config := {maxSteps := 1000000}) only [↓zvN, zvU, ↓up_apply, ↓hv_apply, ↓upO_some, ↓upO_none, ↓ev_tmp, ↓ev_const, ↓ev_func, ↓ev_global, init, Nat.reduceEqDiff, Nat.reduceAdd, Nat.reduceMul, Nat.reduceSub, ↓reduceIte, Int.reduceEq, Int.reduceNe, Nat.reduceLeDiff, one, Value.cells, Int.reduceLE, Int.reduceLT, Int.reduceToNat, add_mk, reduceCtorEq, List.mem_range'_1, true_and, and_true, and_false, false_and, Nat.reduceLT, Nat.reduceLeDiff, tyF, h0, h1, h5]
  refine ⟨fun h9 => ?_, fun h9 => ?_⟩
  rotate_left
  · obtain rfl : y = 0 := by omega
    rw [Int.mul_zero, Int.add_zero] at hinv
    have : o = R := by omega
    subst this
    first | rfl | exact ⟨rfl, rfl⟩
  have er : Int.tmod y 2 = y % 2 := Int.tmod_eq_emod_of_nonneg y0
  have ew : IntKind.i64.wrap (y % 2) = y % 2 := w64 (by omega) (by omega)
  have eq : Int.tdiv y 2 = y / 2 := Int.tdiv_eq_ediv_of_nonneg y0
  have ew2 : IntKind.i64.wrap (y / 2) = y / 2 := w64 (by omega) (by omega)
  have hst := mul_step (a := x) (b := y) (o := o) (C := 4611686018427387904) x0 x1 h9 o0 o1 (by omega)
  rw [hinv] at hst
  by_cases hod : y % 2 = 1
  · rw [if_pos hod] at hst
    simp (config := {maxSteps := 1000000}) only [↓zvN, zvU, ↓up_apply, ↓hv_apply, ↓upO_some, ↓upO_none, ↓ev_tmp, ↓ev_const, ↓ev_func, ↓ev_global, init, Nat.reduceEqDiff, Nat.reduceAdd, Nat.reduceMul, Nat.reduceSub, ↓reduceIte, Int.reduceEq, Int.reduceNe, Nat.reduceLeDiff, one, Value.cells, Int.reduceLE, Int.reduceLT, Int.reduceToNat, add_mk, reduceCtorEq, List.mem_range'_1, true_and, and_true, and_false, false_and, Nat.reduceLT, Nat.reduceLeDiff, tyF, h0, h1, h5, er, ew, hod]
    refine call_ok Try.call61 (ref_add w3 o x) ?_
    rintro _ w4 ⟨rfl, rfl⟩
    simp (config := {maxSteps := 1000000}) only [↓zvN, zvU, ↓up_apply, ↓hv_apply, ↓upO_some, ↓upO_none, ↓ev_tmp, ↓ev_const, ↓ev_func, ↓ev_global, init, Nat.reduceEqDiff, Nat.reduceAdd, Nat.reduceMul, Nat.reduceSub, ↓reduceIte, Int.reduceEq, Int.reduceNe, Nat.reduceLeDiff, one, Value.cells, Int.reduceLE, Int.reduceLT, Int.reduceToNat, add_mk, reduceCtorEq, List.mem_range'_1, true_and, and_true, and_false, false_and, Nat.reduceLT, Nat.reduceLeDiff, tyF, h0, h1, h5]
    refine call_ok Try.call61 (ref_add w4 x x) ?_
    rintro _ w5 ⟨rfl, rfl⟩
    rw [addM_id o0 o1 x0 x1, addM_id x0 x1 x0 x1]
    simp (config := {maxSteps := 1000000}) only [↓zvN, zvU, ↓up_apply, ↓hv_apply, ↓upO_some, ↓upO_none, ↓ev_tmp, ↓ev_const, ↓ev_func, ↓ev_global, init, Nat.reduceEqDiff, Nat.reduceAdd, Nat.reduceMul, Nat.reduceSub, ↓reduceIte, Int.reduceEq, Int.reduceNe, Nat.reduceLeDiff, one, Value.cells, Int.reduceLE, Int.reduceLT, Int.reduceToNat, add_mk, reduceCtorEq, List.mem_range'_1, true_and, and_true, and_false, false_and, Nat.reduceLT, Nat.reduceLeDiff, tyF, h0, h1, h5, eq, ew2]
    refine ⟨⟨?_, _, _, _, rfl, rfl, rfl, by omega, by omega, by omega, by omega, by omega, by omega, hst, rfl⟩, by simp only [numOf]; omega⟩
    repeat (first | exact Same.hv _ _ _ | refine Same.up (by simp) ?_)
  · rw [if_neg hod] at hst
    simp (config := {maxSteps := 1000000}) only [↓zvN, zvU, ↓up_apply, ↓hv_apply, ↓upO_some, ↓upO_none, ↓ev_tmp, ↓ev_const, ↓ev_func, ↓ev_global, init, Nat.reduceEqDiff, Nat.reduceAdd, Nat.reduceMul, Nat.reduceSub, ↓reduceIte, Int.reduceEq, Int.reduceNe, Nat.reduceLeDiff, one, Value.cells, Int.reduceLE, Int.reduceLT, Int.reduceToNat, add_mk, reduceCtorEq, List.mem_range'_1, true_and, and_true, and_false, false_and, Nat.reduceLT, Nat.reduceLeDiff, tyF, h0, h1, h5, er, ew, hod]
    refine call_ok Try.call61 (ref_add w3 x x) ?_
    rintro _ w5 ⟨rfl, rfl⟩
    rw [addM_id x0 x1 x0 x1]
    simp (config := {maxSteps := 1000000}) only [↓zvN, zvU, ↓up_apply, ↓hv_apply, ↓upO_some, ↓upO_none, ↓ev_tmp, ↓ev_const, ↓ev_func, ↓ev_global, init, Nat.reduceEqDiff, Nat.reduceAdd, Nat.reduceMul, Nat.reduceSub, ↓reduceIte, Int.reduceEq, Int.reduceNe, Nat.reduceLeDiff, one, Value.cells, Int.reduceLE, Int.reduceLT, Int.reduceToNat, add_mk, reduceCtorEq, List.mem_range'_1, true_and, and_true, and_false, false_and, Nat.reduceLT, Nat.reduceLeDiff, tyF, h0, h1, h5, eq, ew2]
    refine ⟨⟨?_, _, _, _, rfl, rfl, rfl, by omega, by omega, by omega, by omega, by omega, by omega, hst, rfl⟩, by simp only [numOf]; omega⟩
    repeat (first | exact Same.hv _ _ _ | refine Same.up (by simp) ?_)
/-- the document's tokens -/
def rtok (burst : Int) (t : TokM) : List Value := [.int .i64 t.rate, .int .i64 burst, .int .i64 t.level, .int .i64 t.now]
theorem zerRT : zer Try.prog 120 = some (.agg #[.int .i64 0, .int .i64 0, .int .i64 0, .int .i64 0]) := by rw [zer120]
theorem rt_new (w : World) (rate burst : Int) (h : tokOk rate burst) : Ret Try.prog 59 #[.int .i64 rate, .int .i64 burst] w fun v w' => v = .agg (rtok burst (tok0 rate burst)).toArray ∧ More w w' := by
  refine ret_of Try.func59 rfl (by kernel_rfl) (Nat.le_of_ble_eq_true (by kernel_rfl)) ?_
  have ⟨h1, h2, h3, h4⟩ := h
  have em : IntKind.i64.wrap (burst * 1048576) = burst * 1048576 := w64 (by omega) (by omega)
  simp (config := {maxSteps := 1000000}) only [↓zvN, zvU, ↓up_apply, ↓hv_apply, ↓upO_some, ↓upO_none, ↓ev_tmp, ↓ev_const, ↓ev_func, ↓ev_global, init, Nat.reduceEqDiff, Nat.reduceAdd, Nat.reduceMul, Nat.reduceSub, ↓reduceIte, Int.reduceEq, Int.reduceNe, Nat.reduceLeDiff, one, Value.cells, Int.reduceLE, Int.reduceLT, Int.reduceToNat, add_mk, reduceCtorEq, List.mem_range'_1, true_and, and_true, and_false, false_and, Nat.reduceLT, Nat.reduceLeDiff, tyF, zerRT]
  have hm1 := more_alloc w (.cells #[.int .i64 0, .int .i64 0, .int .i64 0, .int .i64 0] 120)
  have hb1 := Blk.new w 120 #[.int .i64 0, .int .i64 0, .int .i64 0, .int .i64 0]
  obtain ⟨w1, hw1⟩ : ∃ w1, w.alloc (.cells #[.int .i64 0, .int .i64 0, .int .i64 0, .int .i64 0] 120) = w1 := ⟨_, rfl⟩
  rw [hw1] at hm1 hb1 ⊢
  have bd := build_of (P := Try.prog) (T := 120) (parts := #[(0, .int .i64 rate), (1, .int .i64 burst), (2, .int .i64 (burst * 1048576)), (3, .int .i64 0)]) (rtok burst (tok0 rate burst)) (by kernel_rfl) zerRT (by kernel_rfl) w1
  simp (config := {maxSteps := 1000000}) only [↓zvN, zvU, ↓up_apply, ↓hv_apply, ↓upO_some, ↓upO_none, ↓ev_tmp, ↓ev_const, ↓ev_func, ↓ev_global, init, Nat.reduceEqDiff, Nat.reduceAdd, Nat.reduceMul, Nat.reduceSub, ↓reduceIte, Int.reduceEq, Int.reduceNe, Nat.reduceLeDiff, one, Value.cells, Int.reduceLE, Int.reduceLT, Int.reduceToNat, add_mk, reduceCtorEq, List.mem_range'_1, true_and, and_true, and_false, false_and, Nat.reduceLT, Nat.reduceLeDiff, tyF, em, bd]
  refine st_all hb1 rfl rfl (by intro u hu; simp [rtok] at hu; rcases hu with rfl | rfl | rfl | rfl <;> rfl) fun w2 j1 j2 => ?_
  rw [s2_undef]
  rw [List.toList_toArray] at j2
  have v2 := j2.all_eq 4 rfl
  simp (config := {maxSteps := 1000000}) only [↓zvN, zvU, ↓up_apply, ↓hv_apply, ↓upO_some, ↓upO_none, ↓ev_tmp, ↓ev_const, ↓ev_func, ↓ev_global, init, Nat.reduceEqDiff, Nat.reduceAdd, Nat.reduceMul, Nat.reduceSub, ↓reduceIte, Int.reduceEq, Int.reduceNe, Nat.reduceLeDiff, one, Value.cells, Int.reduceLE, Int.reduceLT, Int.reduceToNat, add_mk, reduceCtorEq, List.mem_range'_1, true_and, and_true, and_false, false_and, Nat.reduceLT, Nat.reduceLeDiff, tyF, v2]
  exact ⟨rfl, more_but hm1 (But.of_wr j1) (Nat.le_refl _)⟩
theorem rt_at (w : World) (t : TokM) (burst now : Int) (ht : t.Ok) (hmost : t.most = burst * 1048576) (hb : 1 ≤ burst ∧ burst ≤ 1073741824) (hn : now ≤ 9223372036854775807) :
    Ret Try.prog 72 #[.agg (rtok burst t).toArray, .int .i64 now] w fun v w' => v = .agg (rtok burst (t.upto now)).toArray ∧ More w w' := by
  refine ret_of Try.func72 rfl (by kernel_rfl) (Nat.le_of_ble_eq_true (by kernel_rfl)) ?_
  have h0 := ht.n0
  have hr := TokM.at_range ht now
  have hm1 := more_alloc w (.cells (rtok burst t).toArray 120)
  have hb1 := Blk.new w 120 (rtok burst t).toArray
  have s1 := size_alloc w (.cells (rtok burst t).toArray 120)
  have hm2 := more_alloc (w.alloc (.cells (rtok burst t).toArray 120)) (.cells #[.int .i64 0, .int .i64 0, .int .i64 0, .int .i64 0] 120)
  have hb2 := Blk.new (w.alloc (.cells (rtok burst t).toArray 120)) 120 #[.int .i64 0, .int .i64 0, .int .i64 0, .int .i64 0]
  replace hb1 := hb1.more hm2
  have hm := hm1.trans hm2
  rw [s1] at hb2
  rw [List.toList_toArray] at hb1
  simp (config := {maxSteps := 1000000}) only [↓zvN, zvU, ↓up_apply, ↓hv_apply, ↓upO_some, ↓upO_none, ↓ev_tmp, ↓ev_const, ↓ev_func, ↓ev_global, init, Nat.reduceEqDiff, Nat.reduceAdd, Nat.reduceMul, Nat.reduceSub, ↓reduceIte, Int.reduceEq, Int.reduceNe, Nat.reduceLeDiff, one, Value.cells, Int.reduceLE, Int.reduceLT, Int.reduceToNat, add_mk, reduceCtorEq, List.mem_range'_1, true_and, and_true, and_false, false_and, Nat.reduceLT, Nat.reduceLeDiff, tyF, s1, zerRT]
  have c3 : ((w.alloc (.cells (rtok burst t).toArray 120)).alloc (.cells #[.int .i64 0, .int .i64 0, .int .i64 0, .int .i64 0] 120)).cell? ⟨w.heap.size, 3, none⟩ = some (.int .i64 t.now) := by rw [hb1.cell]; rfl
  have va := hb1.all_eq 4 rfl
  by_cases hle : now ≤ t.now
  · have hup : t.upto now = t := by unfold TokM.upto TokM.at_; rw [if_pos hle, show max t.now now = t.now by omega]
    rw [hup]
    simp (config := {maxSteps := 1000000}) only [↓zvN, zvU, ↓up_apply, ↓hv_apply, ↓upO_some, ↓upO_none, ↓ev_tmp, ↓ev_const, ↓ev_func, ↓ev_global, init, Nat.reduceEqDiff, Nat.reduceAdd, Nat.reduceMul, Nat.reduceSub, ↓reduceIte, Int.reduceEq, Int.reduceNe, Nat.reduceLeDiff, one, Value.cells, Int.reduceLE, Int.reduceLT, Int.reduceToNat, add_mk, reduceCtorEq, List.mem_range'_1, true_and, and_true, and_false, false_and, Nat.reduceLT, Nat.reduceLeDiff, tyF, s1, c3, hle, va]
    refine st_all hb2 rfl rfl (by intro u hu; simp [rtok] at hu; rcases hu with rfl | rfl | rfl | rfl <;> rfl) fun w2 j1 j2 => ?_
    rw [s2_undef]
    rw [List.toList_toArray] at j2
    have v2 := j2.all_eq 4 rfl
    simp (config := {maxSteps := 1000000}) only [↓zvN, zvU, ↓up_apply, ↓hv_apply, ↓upO_some, ↓upO_none, ↓ev_tmp, ↓ev_const, ↓ev_func, ↓ev_global, init, Nat.reduceEqDiff, Nat.reduceAdd, Nat.reduceMul, Nat.reduceSub, ↓reduceIte, Int.reduceEq, Int.reduceNe, Nat.reduceLeDiff, one, Value.cells, Int.reduceLE, Int.reduceLT, Int.reduceToNat, add_mk, reduceCtorEq, List.mem_range'_1, true_and, and_true, and_false, false_and, Nat.reduceLT, Nat.reduceLeDiff, tyF, s1, v2]
    exact ⟨rfl, more_but hm (But.of_wr j1) (by omega)⟩
  · simp (config := {maxSteps := 1000000}) only [↓zvN, zvU, ↓up_apply, ↓hv_apply, ↓upO_some, ↓upO_none, ↓ev_tmp, ↓ev_const, ↓ev_func, ↓ev_global, init, Nat.reduceEqDiff, Nat.reduceAdd, Nat.reduceMul, Nat.reduceSub, ↓reduceIte, Int.reduceEq, Int.reduceNe, Nat.reduceLeDiff, one, Value.cells, Int.reduceLE, Int.reduceLT, Int.reduceToNat, add_mk, reduceCtorEq, List.mem_range'_1, true_and, and_true, and_false, false_and, Nat.reduceLT, Nat.reduceLeDiff, tyF, s1, c3, hle]
    obtain ⟨w1, hw1⟩ : ∃ w1, (w.alloc (.cells (rtok burst t).toArray 120)).alloc (.cells #[.int .i64 0, .int .i64 0, .int .i64 0, .int .i64 0] 120) = w1 := ⟨_, rfl⟩
    rw [hw1] at hb1 hb2 hm ⊢
    have d0 := hb1.cell 0
    have d2 := hb1.cell 2
    have d3 := hb1.cell 3
    simp only [rtok, List.getElem?_cons_zero, List.getElem?_cons_succ] at d0 d2 d3
    have l1 := hb1.lt
    have es : IntKind.i64.wrap (now - t.now) = now - t.now := w64 (by omega) (by omega)
    refine draw_name fun K hK => ?_
    refine draw_seen 9 [[], [0], [], [], [3], [2, 3, 4], [], [6], [2, 3, 4, 5, 6, 7], [0, 1, 2, 3, 4, 5, 6, 7, 8], [0, 1, 2, 3, 4, 5, 6, 7, 8, 9], [0, 1, 2, 3, 4, 5, 6, 7, 8, 9, 10]] (RV.look [(8, RV.IsV (.int .i64 (mulM (now - t.now) t.rate))), (9, RV.IsV (.int .i64 (addM t.level (mulM (now - t.now) t.rate))))]) mixed (by kernel_rfl) (by kernel_rfl) (look_keeps _ (by simp [keepsV])) ?_
    simp (config := {maxSteps := 1000000}) only [↓zvN, zvU, ↓zqD, ↓up_apply, ↓hv_apply, ↓upO_some, ↓upO_none, ↓ev_tmp, ↓ev_const, ↓ev_func, ↓ev_global, init, Nat.reduceEqDiff, Nat.reduceAdd, Nat.reduceMul, Nat.reduceSub, ↓reduceIte, Int.reduceEq, Int.reduceNe, Nat.reduceLeDiff, one, Value.cells, Int.reduceLE, Int.reduceLT, Int.reduceToNat, add_mk, reduceCtorEq, List.mem_range'_1, true_and, and_true, and_false, false_and, Nat.reduceLT, Nat.reduceLeDiff, tyF, s1, d0, d2, d3, l1, es]
    refine ⟨fun w2 hm2 => call_ok Try.call88 (ref_mul w2 _ _) ?_, ?_⟩
    · rintro _ w3 ⟨rfl, rfl⟩
      simp (config := {maxSteps := 1000000}) only [↓zvN, zvU, ↓zqD, ↓up_apply, ↓hv_apply, ↓upO_some, ↓upO_none, ↓ev_tmp, ↓ev_const, ↓ev_func, ↓ev_global, init, Nat.reduceEqDiff, Nat.reduceAdd, Nat.reduceMul, Nat.reduceSub, ↓reduceIte, Int.reduceEq, Int.reduceNe, Nat.reduceLeDiff, one, Value.cells, Int.reduceLE, Int.reduceLT, Int.reduceToNat, add_mk, reduceCtorEq, List.mem_range'_1, true_and, and_true, and_false, false_and, Nat.reduceLT, Nat.reduceLeDiff, tyF]
      exact ⟨More.refl _, rfl⟩
    rintro _ ⟨_, _, rfl⟩
    simp (config := {maxSteps := 1000000}) only [↓zvN, zvU, ↓zqD, ↓up_apply, ↓hv_apply, ↓upO_some, ↓upO_none, ↓ev_tmp, ↓ev_const, ↓ev_func, ↓ev_global, init, Nat.reduceEqDiff, Nat.reduceAdd, Nat.reduceMul, Nat.reduceSub, ↓reduceIte, Int.reduceEq, Int.reduceNe, Nat.reduceLeDiff, one, Value.cells, Int.reduceLE, Int.reduceLT, Int.reduceToNat, add_mk, reduceCtorEq, List.mem_range'_1, true_and, and_true, and_false, false_and, Nat.reduceLT, Nat.reduceLeDiff, tyF, s1, d0, d2, d3, l1, es]
    intro w2 hm2 _
    refine call_ok Try.call61 (ref_add w2 _ _) ?_
    rintro _ w3 ⟨rfl, rfl⟩
    have hup : t.upto now = { t with level := min t.most (addM t.level (mulM (now - t.now) t.rate)), now := now } := by
      unfold TokM.upto TokM.at_
      rw [if_neg hle, show max t.now now = now by omega]
    have har := addM_range t.level (mulM (now - t.now) t.rate)
    obtain ⟨av, hav⟩ : ∃ av, addM t.level (mulM (now - t.now) t.rate) = av := ⟨_, rfl⟩
    rw [hav] at hup har ⊢
    try simp (config := {maxSteps := 1000000}) only [↓zvN, zvU, ↓up_apply, ↓hv_apply, ↓upO_some, ↓upO_none, ↓ev_tmp, ↓ev_const, ↓ev_func, ↓ev_global, init, Nat.reduceEqDiff, Nat.reduceAdd, Nat.reduceMul, Nat.reduceSub, ↓reduceIte, Int.reduceEq, Int.reduceNe, Nat.reduceLeDiff, one, Value.cells, Int.reduceLE, Int.reduceLT, Int.reduceToNat, add_mk, reduceCtorEq, List.mem_range'_1, true_and, and_true, and_false, false_and, Nat.reduceLT, Nat.reduceLeDiff, tyF, s1, p_nil]
    have hb3 := hb1.more hm2
    refine st_cell hb3 (by simp [rtok]) rfl fun w4 j1 j2 => ?_
    rw [s2_undef]
    try simp (config := {maxSteps := 1000000}) only [↓zvN, zvU, ↓up_apply, ↓hv_apply, ↓upO_some, ↓upO_none, ↓ev_tmp, ↓ev_const, ↓ev_func, ↓ev_global, init, Nat.reduceEqDiff, Nat.reduceAdd, Nat.reduceMul, Nat.reduceSub, ↓reduceIte, Int.reduceEq, Int.reduceNe, Nat.reduceLeDiff, one, Value.cells, Int.reduceLE, Int.reduceLT, Int.reduceToNat, add_mk, reduceCtorEq, List.mem_range'_1, true_and, and_true, and_false, false_and, Nat.reduceLT, Nat.reduceLeDiff, tyF]
    refine hK _ _ ?_
    clear hK K
    rw [hup]
    replace j2 : Blk w4 w.heap.size 120 [.int .i64 t.rate, .int .i64 burst, .int .i64 av, .int .i64 t.now] := j2
    have f1 := j2.cell 1
    have f2 := j2.cell 2
    simp only [List.getElem?_cons_zero, List.getElem?_cons_succ] at f1 f2
    have em : IntKind.i64.wrap (burst * 1048576) = burst * 1048576 := w64 (by omega) (by omega)
    have hM4 : More w w4 := more_but (hm.trans hm2) (But.of_wr j1) (Nat.le_refl _)
    have hb4 := (But.of_wr j1).blk (hb2.more hm2) (by omega)
    by_cases hgt : burst * 1048576 < av
    · have hmin : min t.most av = burst * 1048576 := by omega
      rw [hmin]
      simp (config := {maxSteps := 1000000}) only [↓zvN, zvU, ↓up_apply, ↓hv_apply, ↓upO_some, ↓upO_none, ↓ev_tmp, ↓ev_const, ↓ev_func, ↓ev_global, init, Nat.reduceEqDiff, Nat.reduceAdd, Nat.reduceMul, Nat.reduceSub, ↓reduceIte, Int.reduceEq, Int.reduceNe, Nat.reduceLeDiff, one, Value.cells, Int.reduceLE, Int.reduceLT, Int.reduceToNat, add_mk, reduceCtorEq, List.mem_range'_1, true_and, and_true, and_false, false_and, Nat.reduceLT, Nat.reduceLeDiff, tyF, s1, f1, f2, em, hgt]
      refine st_cell j2 (by simp) rfl fun w5 k1 k2 => ?_
      rw [s2_undef]
      replace k2 : Blk w5 w.heap.size 120 [.int .i64 t.rate, .int .i64 burst, .int .i64 (burst * 1048576), .int .i64 t.now] := k2
      simp (config := {maxSteps := 1000000}) only [↓zvN, zvU, ↓up_apply, ↓hv_apply, ↓upO_some, ↓upO_none, ↓ev_tmp, ↓ev_const, ↓ev_func, ↓ev_global, init, Nat.reduceEqDiff, Nat.reduceAdd, Nat.reduceMul, Nat.reduceSub, ↓reduceIte, Int.reduceEq, Int.reduceNe, Nat.reduceLeDiff, one, Value.cells, Int.reduceLE, Int.reduceLT, Int.reduceToNat, add_mk, reduceCtorEq, List.mem_range'_1, true_and, and_true, and_false, false_and, Nat.reduceLT, Nat.reduceLeDiff, tyF, s1]
      refine st_cell k2 (by simp) rfl fun w6 i1 i2 => ?_
      rw [s2_undef]
      replace i2 : Blk w6 w.heap.size 120 [.int .i64 t.rate, .int .i64 burst, .int .i64 (burst * 1048576), .int .i64 now] := i2
      have v6 := i2.all_eq 4 rfl
      have hb6 := (But.of_wr i1).blk (((But.of_wr k1).blk hb4 (by omega))) (by omega)
      simp (config := {maxSteps := 1000000}) only [↓zvN, zvU, ↓up_apply, ↓hv_apply, ↓upO_some, ↓upO_none, ↓ev_tmp, ↓ev_const, ↓ev_func, ↓ev_global, init, Nat.reduceEqDiff, Nat.reduceAdd, Nat.reduceMul, Nat.reduceSub, ↓reduceIte, Int.reduceEq, Int.reduceNe, Nat.reduceLeDiff, one, Value.cells, Int.reduceLE, Int.reduceLT, Int.reduceToNat, add_mk, reduceCtorEq, List.mem_range'_1, true_and, and_true, and_false, false_and, Nat.reduceLT, Nat.reduceLeDiff, tyF, s1, v6]
      refine st_all hb6 rfl rfl (by intro u hu; simp at hu; rcases hu with rfl | rfl | rfl | rfl <;> rfl) fun w7 q1 q2 => ?_
      rw [s2_undef]
      rw [List.toList_toArray] at q2
      have v7 := q2.all_eq 4 rfl
      simp (config := {maxSteps := 1000000}) only [↓zvN, zvU, ↓up_apply, ↓hv_apply, ↓upO_some, ↓upO_none, ↓ev_tmp, ↓ev_const, ↓ev_func, ↓ev_global, init, Nat.reduceEqDiff, Nat.reduceAdd, Nat.reduceMul, Nat.reduceSub, ↓reduceIte, Int.reduceEq, Int.reduceNe, Nat.reduceLeDiff, one, Value.cells, Int.reduceLE, Int.reduceLT, Int.reduceToNat, add_mk, reduceCtorEq, List.mem_range'_1, true_and, and_true, and_false, false_and, Nat.reduceLT, Nat.reduceLeDiff, tyF, s1, v7]
      exact ⟨rfl, more_but (more_but ((more_but hM4 (But.of_wr k1) (Nat.le_refl _))) (But.of_wr i1) (Nat.le_refl _)) (But.of_wr q1) (by omega)⟩
    · have hmin : min t.most av = av := by omega
      rw [hmin]
      simp (config := {maxSteps := 1000000}) only [↓zvN, zvU, ↓up_apply, ↓hv_apply, ↓upO_some, ↓upO_none, ↓ev_tmp, ↓ev_const, ↓ev_func, ↓ev_global, init, Nat.reduceEqDiff, Nat.reduceAdd, Nat.reduceMul, Nat.reduceSub, ↓reduceIte, Int.reduceEq, Int.reduceNe, Nat.reduceLeDiff, one, Value.cells, Int.reduceLE, Int.reduceLT, Int.reduceToNat, add_mk, reduceCtorEq, List.mem_range'_1, true_and, and_true, and_false, false_and, Nat.reduceLT, Nat.reduceLeDiff, tyF, s1, f1, f2, em, hgt]
      refine st_cell j2 (by simp) rfl fun w6 i1 i2 => ?_
      rw [s2_undef]
      replace i2 : Blk w6 w.heap.size 120 [.int .i64 t.rate, .int .i64 burst, .int .i64 av, .int .i64 now] := i2
      have v6 := i2.all_eq 4 rfl
      have hb6 := (But.of_wr i1).blk (hb4) (by omega)
      simp (config := {maxSteps := 1000000}) only [↓zvN, zvU, ↓up_apply, ↓hv_apply, ↓upO_some, ↓upO_none, ↓ev_tmp, ↓ev_const, ↓ev_func, ↓ev_global, init, Nat.reduceEqDiff, Nat.reduceAdd, Nat.reduceMul, Nat.reduceSub, ↓reduceIte, Int.reduceEq, Int.reduceNe, Nat.reduceLeDiff, one, Value.cells, Int.reduceLE, Int.reduceLT, Int.reduceToNat, add_mk, reduceCtorEq, List.mem_range'_1, true_and, and_true, and_false, false_and, Nat.reduceLT, Nat.reduceLeDiff, tyF, s1, v6]
      refine st_all hb6 rfl rfl (by intro u hu; simp at hu; rcases hu with rfl | rfl | rfl | rfl <;> rfl) fun w7 q1 q2 => ?_
      rw [s2_undef]
      rw [List.toList_toArray] at q2
      have v7 := q2.all_eq 4 rfl
      simp (config := {maxSteps := 1000000}) only [↓zvN, zvU, ↓up_apply, ↓hv_apply, ↓upO_some, ↓upO_none, ↓ev_tmp, ↓ev_const, ↓ev_func, ↓ev_global, init, Nat.reduceEqDiff, Nat.reduceAdd, Nat.reduceMul, Nat.reduceSub, ↓reduceIte, Int.reduceEq, Int.reduceNe, Nat.reduceLeDiff, one, Value.cells, Int.reduceLE, Int.reduceLT, Int.reduceToNat, add_mk, reduceCtorEq, List.mem_range'_1, true_and, and_true, and_false, false_and, Nat.reduceLT, Nat.reduceLeDiff, tyF, s1, v7]
      exact ⟨rfl, more_but (more_but (hM4) (But.of_wr i1) (Nat.le_refl _)) (But.of_wr q1) (by omega)⟩
theorem rt_take (w : World) (t : TokM) (burst now n : Int) (ht : t.Ok) (hmost : t.most = burst * 1048576) (hb : 1 ≤ burst ∧ burst ≤ 1073741824) (hn : now ≤ 9223372036854775807) (hn2 : n ≤ 9223372036854775807) :
    Ret Try.prog 62 #[.agg (rtok burst t).toArray, .int .i64 now, .int .i64 n] w fun v w' => v = .tuple #[.agg (rtok burst (t.take now n)).toArray, .bool (t.can now n)] ∧ More w w' := by
  refine ret_of Try.func62 rfl (by kernel_rfl) (Nat.le_of_ble_eq_true (by kernel_rfl)) ?_
  have hr := TokM.at_range ht now
  have hm1' := ht.m1
  have hm1 := more_alloc w (.cells (rtok burst t).toArray 120)
  have hb1 := Blk.new w 120 (rtok burst t).toArray
  have s1 := size_alloc w (.cells (rtok burst t).toArray 120)
  have hm2 := more_alloc (w.alloc (.cells (rtok burst t).toArray 120)) (.cells #[.int .i64 0, .int .i64 0, .int .i64 0, .int .i64 0] 120)
  have hb2 := Blk.new (w.alloc (.cells (rtok burst t).toArray 120)) 120 #[.int .i64 0, .int .i64 0, .int .i64 0, .int .i64 0]
  replace hb1 := hb1.more hm2
  have hm := hm1.trans hm2
  rw [s1] at hb2
  rw [List.toList_toArray] at hb1
  simp (config := {maxSteps := 1000000}) only [↓zvN, zvU, ↓up_apply, ↓hv_apply, ↓upO_some, ↓upO_none, ↓ev_tmp, ↓ev_const, ↓ev_func, ↓ev_global, init, Nat.reduceEqDiff, Nat.reduceAdd, Nat.reduceMul, Nat.reduceSub, ↓reduceIte, Int.reduceEq, Int.reduceNe, Nat.reduceLeDiff, one, Value.cells, Int.reduceLE, Int.reduceLT, Int.reduceToNat, add_mk, reduceCtorEq, List.mem_range'_1, true_and, and_true, and_false, false_and, Nat.reduceLT, Nat.reduceLeDiff, tyF, s1, zerRT]
  have va := hb1.all_eq 4 rfl
  simp (config := {maxSteps := 1000000}) only [↓zvN, zvU, ↓up_apply, ↓hv_apply, ↓upO_some, ↓upO_none, ↓ev_tmp, ↓ev_const, ↓ev_func, ↓ev_global, init, Nat.reduceEqDiff, Nat.reduceAdd, Nat.reduceMul, Nat.reduceSub, ↓reduceIte, Int.reduceEq, Int.reduceNe, Nat.reduceLeDiff, one, Value.cells, Int.reduceLE, Int.reduceLT, Int.reduceToNat, add_mk, reduceCtorEq, List.mem_range'_1, true_and, and_true, and_false, false_and, Nat.reduceLT, Nat.reduceLeDiff, tyF, s1, va]
  obtain ⟨w1, hw1⟩ : ∃ w1, (w.alloc (.cells (rtok burst t).toArray 120)).alloc (.cells #[.int .i64 0, .int .i64 0, .int .i64 0, .int .i64 0] 120) = w1 := ⟨_, rfl⟩
  rw [hw1] at hb1 hb2 hm ⊢
  refine call_ok Try.call72 (rt_at w1 t burst now ht hmost hb hn) ?_
  rintro _ w2 ⟨rfl, hm2⟩
  simp (config := {maxSteps := 1000000}) only [↓zvN, zvU, ↓up_apply, ↓hv_apply, ↓upO_some, ↓upO_none, ↓ev_tmp, ↓ev_const, ↓ev_func, ↓ev_global, init, Nat.reduceEqDiff, Nat.reduceAdd, Nat.reduceMul, Nat.reduceSub, ↓reduceIte, Int.reduceEq, Int.reduceNe, Nat.reduceLeDiff, one, Value.cells, Int.reduceLE, Int.reduceLT, Int.reduceToNat, add_mk, reduceCtorEq, List.mem_range'_1, true_and, and_true, and_false, false_and, Nat.reduceLT, Nat.reduceLeDiff, tyF, s1]
  refine st_all (hb1.more hm2) rfl rfl (by intro u hu; simp [rtok] at hu; rcases hu with rfl | rfl | rfl | rfl <;> rfl) fun w3 j1 j2 => ?_
  rw [s2_undef]
  rw [List.toList_toArray] at j2
  have hM3 : More w w3 := more_but (hm.trans hm2) (But.of_wr j1) (Nat.le_refl _)
  have hb3 := (But.of_wr j1).blk (hb2.more hm2) (by omega)
  have f2 : w3.cell? ⟨w.heap.size, 2, none⟩ = some (.int .i64 (t.at_ now)) := by rw [j2.cell]; rfl
  have hup : t.upto now = { t with level := t.at_ now, now := max t.now now } := rfl
  have htk : t.take now n = if t.can now n = true then { t.upto now with level := t.at_ now - n * 1048576 } else t.upto now := rfl
  have hcan : t.can now n = decide (0 ≤ n ∧ n ≤ 1073741824 ∧ n * 1048576 ≤ t.at_ now) := rfl
  obtain ⟨lv, hlv⟩ : ∃ lv, t.at_ now = lv := ⟨_, rfl⟩
  rw [hlv] at hr hup htk hcan f2
  have vu := j2.all_eq 4 rfl
  have one4 : ∀ u ∈ (rtok burst (t.upto now)), u.oneCell' = true := by intro u hu; simp [rtok] at hu; rcases hu with rfl | rfl | rfl | rfl <;> rfl
  by_cases h1 : n < 0
  · have hc : t.can now n = false := by rw [hcan]; exact decide_eq_false (by omega)
    have ht2 : t.take now n = t.upto now := by rw [htk, if_neg (by rw [hc]; simp)]
    rw [ht2, hc]
    simp (config := {maxSteps := 1000000}) only [↓zvN, zvU, ↓up_apply, ↓hv_apply, ↓upO_some, ↓upO_none, ↓ev_tmp, ↓ev_const, ↓ev_func, ↓ev_global, init, Nat.reduceEqDiff, Nat.reduceAdd, Nat.reduceMul, Nat.reduceSub, ↓reduceIte, Int.reduceEq, Int.reduceNe, Nat.reduceLeDiff, one, Value.cells, Int.reduceLE, Int.reduceLT, Int.reduceToNat, add_mk, reduceCtorEq, List.mem_range'_1, true_and, and_true, and_false, false_and, Nat.reduceLT, Nat.reduceLeDiff, tyF, s1, h1, vu]
    refine st_all hb3 rfl rfl (by simpa using one4) fun w7 q1 q2 => ?_
    rw [s2_undef]
    rw [List.toList_toArray] at q2
    have v7 := q2.all_eq 4 rfl
    simp (config := {maxSteps := 1000000}) only [↓zvN, zvU, ↓up_apply, ↓hv_apply, ↓upO_some, ↓upO_none, ↓ev_tmp, ↓ev_const, ↓ev_func, ↓ev_global, init, Nat.reduceEqDiff, Nat.reduceAdd, Nat.reduceMul, Nat.reduceSub, ↓reduceIte, Int.reduceEq, Int.reduceNe, Nat.reduceLeDiff, one, Value.cells, Int.reduceLE, Int.reduceLT, Int.reduceToNat, add_mk, reduceCtorEq, List.mem_range'_1, true_and, and_true, and_false, false_and, Nat.reduceLT, Nat.reduceLeDiff, tyF, s1, v7]
    exact ⟨rfl, more_but hM3 (But.of_wr q1) (by omega)⟩
  by_cases h2 : 1073741824 < n
  · have hc : t.can now n = false := by rw [hcan]; exact decide_eq_false (by omega)
    have ht2 : t.take now n = t.upto now := by rw [htk, if_neg (by rw [hc]; simp)]
    rw [ht2, hc]
    simp (config := {maxSteps := 1000000}) only [↓zvN, zvU, ↓up_apply, ↓hv_apply, ↓upO_some, ↓upO_none, ↓ev_tmp, ↓ev_const, ↓ev_func, ↓ev_global, init, Nat.reduceEqDiff, Nat.reduceAdd, Nat.reduceMul, Nat.reduceSub, ↓reduceIte, Int.reduceEq, Int.reduceNe, Nat.reduceLeDiff, one, Value.cells, Int.reduceLE, Int.reduceLT, Int.reduceToNat, add_mk, reduceCtorEq, List.mem_range'_1, true_and, and_true, and_false, false_and, Nat.reduceLT, Nat.reduceLeDiff, tyF, s1, h1, h2, vu]
    refine st_all hb3 rfl rfl (by simpa using one4) fun w7 q1 q2 => ?_
    rw [s2_undef]
    rw [List.toList_toArray] at q2
    have v7 := q2.all_eq 4 rfl
    simp (config := {maxSteps := 1000000}) only [↓zvN, zvU, ↓up_apply, ↓hv_apply, ↓upO_some, ↓upO_none, ↓ev_tmp, ↓ev_const, ↓ev_func, ↓ev_global, init, Nat.reduceEqDiff, Nat.reduceAdd, Nat.reduceMul, Nat.reduceSub, ↓reduceIte, Int.reduceEq, Int.reduceNe, Nat.reduceLeDiff, one, Value.cells, Int.reduceLE, Int.reduceLT, Int.reduceToNat, add_mk, reduceCtorEq, List.mem_range'_1, true_and, and_true, and_false, false_and, Nat.reduceLT, Nat.reduceLeDiff, tyF, s1, v7]
    exact ⟨rfl, more_but hM3 (But.of_wr q1) (by omega)⟩
  have eq : Int.tdiv lv 1048576 = lv / 1048576 := Int.tdiv_eq_ediv_of_nonneg (by omega)
  have ew : IntKind.i64.wrap (lv / 1048576) = lv / 1048576 := w64 (by omega) (by omega)
  by_cases h3 : lv / 1048576 < n
  · have hc : t.can now n = false := by rw [hcan]; exact decide_eq_false (by omega)
    have ht2 : t.take now n = t.upto now := by rw [htk, if_neg (by rw [hc]; simp)]
    rw [ht2, hc]
    simp (config := {maxSteps := 1000000}) only [↓zvN, zvU, ↓up_apply, ↓hv_apply, ↓upO_some, ↓upO_none, ↓ev_tmp, ↓ev_const, ↓ev_func, ↓ev_global, init, Nat.reduceEqDiff, Nat.reduceAdd, Nat.reduceMul, Nat.reduceSub, ↓reduceIte, Int.reduceEq, Int.reduceNe, Nat.reduceLeDiff, one, Value.cells, Int.reduceLE, Int.reduceLT, Int.reduceToNat, add_mk, reduceCtorEq, List.mem_range'_1, true_and, and_true, and_false, false_and, Nat.reduceLT, Nat.reduceLeDiff, tyF, s1, h1, h2, f2, eq, ew, h3, vu]
    refine st_all hb3 rfl rfl (by simpa using one4) fun w7 q1 q2 => ?_
    rw [s2_undef]
    rw [List.toList_toArray] at q2
    have v7 := q2.all_eq 4 rfl
    simp (config := {maxSteps := 1000000}) only [↓zvN, zvU, ↓up_apply, ↓hv_apply, ↓upO_some, ↓upO_none, ↓ev_tmp, ↓ev_const, ↓ev_func, ↓ev_global, init, Nat.reduceEqDiff, Nat.reduceAdd, Nat.reduceMul, Nat.reduceSub, ↓reduceIte, Int.reduceEq, Int.reduceNe, Nat.reduceLeDiff, one, Value.cells, Int.reduceLE, Int.reduceLT, Int.reduceToNat, add_mk, reduceCtorEq, List.mem_range'_1, true_and, and_true, and_false, false_and, Nat.reduceLT, Nat.reduceLeDiff, tyF, s1, v7]
    exact ⟨rfl, more_but hM3 (But.of_wr q1) (by omega)⟩
  · have hc : t.can now n = true := by rw [hcan]; exact decide_eq_true (by omega)
    have ht2 : t.take now n = { t.upto now with level := lv - n * 1048576 } := by rw [htk, if_pos hc]
    rw [ht2, hc]
    have em : IntKind.i64.wrap (n * 1048576) = n * 1048576 := w64 (by omega) (by omega)
    have ed : IntKind.i64.wrap (lv - n * 1048576) = lv - n * 1048576 := w64 (by omega) (by omega)
    simp (config := {maxSteps := 1000000}) only [↓zvN, zvU, ↓up_apply, ↓hv_apply, ↓upO_some, ↓upO_none, ↓ev_tmp, ↓ev_const, ↓ev_func, ↓ev_global, init, Nat.reduceEqDiff, Nat.reduceAdd, Nat.reduceMul, Nat.reduceSub, ↓reduceIte, Int.reduceEq, Int.reduceNe, Nat.reduceLeDiff, one, Value.cells, Int.reduceLE, Int.reduceLT, Int.reduceToNat, add_mk, reduceCtorEq, List.mem_range'_1, true_and, and_true, and_false, false_and, Nat.reduceLT, Nat.reduceLeDiff, tyF, s1, h1, h2, f2, eq, ew, h3, em, ed]
    refine st_cell j2 (by simp [rtok]) rfl fun w4 k1 k2 => ?_
    rw [s2_undef]
    replace k2 : Blk w4 w.heap.size 120 (rtok burst { t.upto now with level := lv - n * 1048576 }) := k2
    have v4 := k2.all_eq 4 rfl
    have hb4 := (But.of_wr k1).blk hb3 (by omega)
    simp (config := {maxSteps := 1000000}) only [↓zvN, zvU, ↓up_apply, ↓hv_apply, ↓upO_some, ↓upO_none, ↓ev_tmp, ↓ev_const, ↓ev_func, ↓ev_global, init, Nat.reduceEqDiff, Nat.reduceAdd, Nat.reduceMul, Nat.reduceSub, ↓reduceIte, Int.reduceEq, Int.reduceNe, Nat.reduceLeDiff, one, Value.cells, Int.reduceLE, Int.reduceLT, Int.reduceToNat, add_mk, reduceCtorEq, List.mem_range'_1, true_and, and_true, and_false, false_and, Nat.reduceLT, Nat.reduceLeDiff, tyF, s1, v4]
    refine st_all hb4 rfl rfl (by intro u hu; simp [rtok] at hu; rcases hu with rfl | rfl | rfl | rfl <;> rfl) fun w7 q1 q2 => ?_
    rw [s2_undef]
    rw [List.toList_toArray] at q2
    have v7 := q2.all_eq 4 rfl
    simp (config := {maxSteps := 1000000}) only [↓zvN, zvU, ↓up_apply, ↓hv_apply, ↓upO_some, ↓upO_none, ↓ev_tmp, ↓ev_const, ↓ev_func, ↓ev_global, init, Nat.reduceEqDiff, Nat.reduceAdd, Nat.reduceMul, Nat.reduceSub, ↓reduceIte, Int.reduceEq, Int.reduceNe, Nat.reduceLeDiff, one, Value.cells, Int.reduceLE, Int.reduceLT, Int.reduceToNat, add_mk, reduceCtorEq, List.mem_range'_1, true_and, and_true, and_false, false_and, Nat.reduceLT, Nat.reduceLeDiff, tyF, s1, v7]
    exact ⟨rfl, more_but (more_but hM3 (But.of_wr k1) (Nat.le_refl _)) (But.of_wr q1) (by omega)⟩
end Go.Proofs.Ytimhcjakpdebjaa
