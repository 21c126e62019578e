/-
  Layer 29: all counts, as pointers.
-/
import Derived.Test.YtgbhgjghlnknjaaStats
namespace Go.Proofs.Ytgbhgjghlnknjaa
open Go Go.RowKit Go.Proofs.RV
set_option linter.unusedSimpArgs false
set_option linter.unusedVariables false
set_option maxRecDepth 10000
set_option maxHeartbeats 4000000

/-- pointers to the first k counts of the stats at p -/
def ptrs (p k : Nat) : List Value := (List.range k).map fun i => .pointer (some ⟨p, i, none⟩)
theorem ptrs_succ (p k : Nat) : ptrs p (k + 1) = ptrs p k ++ [.pointer (some ⟨p, k, none⟩)] := by simp [ptrs, List.range_succ]
def AllJ (p : Nat) (w : World) (lim off : Nat) (v3 v6 : Value) (w' : World) : Prop :=
  ∃ (k : Nat) (A : Option Addr) (c : Nat), v3 = .slice A (off + k) c ∧ v6 = .int .i64 k ∧ k ≤ lim ∧ Own w' w.heap.size 120 1 A (off + k) c (ptrs p (off + k)) ∧ More w w'
theorem ptrE : ElemT Try.prog 120 (.pointer none) 1 8 := by unfold ElemT; kernel_rfl
theorem stats_all (w : World) (p : Nat) (s : List Int) (hs : s.length = 31) (hb : Blk w p 65 (ints s)) :
    Ret Try.prog 67 #[.pointer (some ⟨p, 0, none⟩)] w fun v w' => ∃ A c, v = .slice A 31 c ∧ Own w' w.heap.size 120 1 A 31 c (ptrs p 31) ∧ More w w' := by
  refine ret_of Try.func67 rfl (by kernel_rfl) (Nat.le_of_ble_eq_true (by kernel_rfl)) ?_
  simp (config := {maxSteps := 1000000}) only [↓zvD, zvU, ↓up_apply, ↓hv_apply, ↓upO_some, ↓upO_none, ↓ev_tmp, ↓ev_const, ↓ev_func, ↓ev_global, init, Nat.reduceEqDiff, Nat.reduceAdd, Nat.reduceMul, Nat.reduceSub, ↓reduceIte, Int.reduceEq, Int.reduceNe, Nat.reduceLeDiff, one, Value.cells, Int.reduceLE, Int.reduceLT, Int.reduceToNat, add_mk, reduceCtorEq, tyF]
  refine loop_p [3, 4, 6, 7, 8, 9, 10, 11, 12, 13, 14, 15, 16, 17] (fun e w' => AllJ p w 15 0 (e 3) (e 6) w') (fun e _ => 15 - (numOf (e 6)).toNat) ?_ ?_
  · exact ⟨0, none, 0, by simp only [hv_apply, up_apply, upO_some, upO_none, init, List.mem_cons, true_or, or_true, if_true, if_false, ↓reduceIte, Nat.reduceEqDiff, false_or, or_false, List.not_mem_nil, List.getElem?_cons_zero, List.getElem?_cons_succ, Option.getD_some] <;> exact rfl, by simp only [hv_apply, up_apply, upO_some, upO_none, init, List.mem_cons, true_or, or_true, if_true, if_false, ↓reduceIte, Nat.reduceEqDiff, false_or, or_false, List.not_mem_nil, List.getElem?_cons_zero, List.getElem?_cons_succ, Option.getD_some] <;> rfl, by omega, Own.nil _ _ _ _, More.refl w⟩
  rintro v w1 ⟨k, A1, c1, h3, h6, hk, ho1, hm1⟩
  simp only [hv_apply, up_apply, upO_some, upO_none, init, List.mem_cons, true_or, or_true, if_true, if_false, ↓reduceIte, Nat.reduceEqDiff, false_or, or_false, List.not_mem_nil, List.getElem?_cons_zero, List.getElem?_cons_succ, Option.getD_some] at h3 h6
  have ek : IntKind.i64.wrap ((k : Int) + 1) = ((k + 1 : Nat) : Int) := w64 (by omega) (by omega)
  have g0 : (0 : Int) ≤ (k : Int) := by omega
  simp (config := {maxSteps := 1000000}) only [↓zvD, zvU, ↓up_apply, ↓hv_apply, ↓upO_some, ↓upO_none, ↓ev_tmp, ↓ev_const, ↓ev_func, ↓ev_global, init, Nat.reduceEqDiff, Nat.reduceAdd, Nat.reduceMul, Nat.reduceSub, ↓reduceIte, Int.reduceEq, Int.reduceNe, Nat.reduceLeDiff, one, Value.cells, Int.reduceLE, Int.reduceLT, Int.reduceToNat, add_mk, reduceCtorEq, tyF, h3, h6]
  refine ⟨fun h9 => ?_, fun h9 => ?_⟩
  · try simp only [Nat.zero_add] at ho1 h3
    simp (config := {maxSteps := 1000000}) only [↓zvD, zvU, ↓up_apply, ↓hv_apply, ↓upO_some, ↓upO_none, ↓ev_tmp, ↓ev_const, ↓ev_func, ↓ev_global, init, Nat.reduceEqDiff, Nat.reduceAdd, Nat.reduceMul, Nat.reduceSub, ↓reduceIte, Int.reduceEq, Int.reduceNe, Nat.reduceLeDiff, one, Value.cells, Int.reduceLE, Int.reduceLT, Int.reduceToNat, add_mk, reduceCtorEq, tyF, h3, h6, g0, h9, Int.toNat_natCast, Nat.zero_add]
    try simp only [Nat.zero_add] at ho1 h3
    refine bslice (z := .pointer none) (cells := #[.pointer (some ⟨p, k, none⟩)]) Try.underlying118 ptrE (by omega) (by have := bcells_list (z := .pointer none) [.pointer (some ⟨p, k, none⟩)] (by intro v hv; simp at hv; subst hv; rfl); exact this) ?_
    simp (config := {maxSteps := 1000000}) only [↓zvD, zvU, ↓up_apply, ↓hv_apply, ↓upO_some, ↓upO_none, ↓ev_tmp, ↓ev_const, ↓ev_func, ↓ev_global, init, Nat.reduceEqDiff, Nat.reduceAdd, Nat.reduceMul, Nat.reduceSub, ↓reduceIte, Int.reduceEq, Int.reduceNe, Nat.reduceLeDiff, one, Value.cells, Int.reduceLE, Int.reduceLT, Int.reduceToNat, add_mk, reduceCtorEq, tyF, h3]
    have hm6 := more_alloc w1 (.cells #[.pointer (some ⟨p, k, none⟩)] 120)
    have hb6 := Blk.new w1 120 #[.pointer (some ⟨p, k, none⟩)]
    generalize w1.alloc (.cells #[.pointer (some ⟨p, k, none⟩)] 120) = w6 at hm6 hb6 ⊢
    have hs1 := hm1.size
    have hs6 := hm6.size
    refine app_own (m := 1) Try.underlying118 ptrE rfl (by omega) (ho1.more hm6) hb6.cs rfl (by intro u hu; simp at hu; subst hu; rfl) (by simp only [maxLen]; omega) (by omega) (by omega) ?_
    intro A7 c7 w7 ho7 hg7 _
    simp (config := {maxSteps := 1000000}) only [↓zvD, zvU, ↓up_apply, ↓hv_apply, ↓upO_some, ↓upO_none, ↓ev_tmp, ↓ev_const, ↓ev_func, ↓ev_global, init, Nat.reduceEqDiff, Nat.reduceAdd, Nat.reduceMul, Nat.reduceSub, ↓reduceIte, Int.reduceEq, Int.reduceNe, Nat.reduceLeDiff, one, Value.cells, Int.reduceLE, Int.reduceLT, Int.reduceToNat, add_mk, reduceCtorEq, tyF, h6, ek]
    refine ⟨⟨?_, k + 1, A7, c7, by first | rfl | (congr 1; omega), rfl, by omega, ?_, grown_below (ho1.more hm6) (hm1.trans hm6) (by omega) hg7⟩, by simp only [numOf]; omega⟩
    · repeat (first | exact Same.hv _ _ _ | refine Same.up (by simp) ?_)
    · have e : 0 + (k + 1) = k + 1 := by omega
      rw [e, ptrs_succ]
      exact ho7
  obtain rfl : k = 15 := by omega
  have own2 : Own w1 w.heap.size 120 1 A1 (15 + 0) c1 (ptrs p (15 + 0)) := by simpa using ho1
  clear ho1 h6 ek g0 h9 hk
  refine loop_p [3, 5, 18, 19, 20, 21, 22, 23, 24, 25, 26, 27, 28, 29] (fun e w' => AllJ p w 16 15 (e 3) (e 18) w') (fun e _ => 16 - (numOf (e 18)).toNat) ?_ ?_
  · exact ⟨0, A1, c1, by simp only [hv_apply, up_apply, upO_some, upO_none, init, List.mem_cons, true_or, or_true, if_true, if_false, ↓reduceIte, Nat.reduceEqDiff, false_or, or_false, List.not_mem_nil, List.getElem?_cons_zero, List.getElem?_cons_succ, Option.getD_some] <;> exact h3, by simp only [hv_apply, up_apply, upO_some, upO_none, init, List.mem_cons, true_or, or_true, if_true, if_false, ↓reduceIte, Nat.reduceEqDiff, false_or, or_false, List.not_mem_nil, List.getElem?_cons_zero, List.getElem?_cons_succ, Option.getD_some] <;> rfl, by omega, own2, hm1⟩
  rintro v w2 ⟨k, A2, c2, h3, h6, hk, ho1, hm2⟩
  simp only [hv_apply, up_apply, upO_some, upO_none, init, List.mem_cons, true_or, or_true, if_true, if_false, ↓reduceIte, Nat.reduceEqDiff, false_or, or_false, List.not_mem_nil, List.getElem?_cons_zero, List.getElem?_cons_succ, Option.getD_some] at h3 h6
  have ek : IntKind.i64.wrap ((k : Int) + 1) = ((k + 1 : Nat) : Int) := w64 (by omega) (by omega)
  have g0 : (0 : Int) ≤ (k : Int) := by omega
  simp (config := {maxSteps := 1000000}) only [↓zvD, zvU, ↓up_apply, ↓hv_apply, ↓upO_some, ↓upO_none, ↓ev_tmp, ↓ev_const, ↓ev_func, ↓ev_global, init, Nat.reduceEqDiff, Nat.reduceAdd, Nat.reduceMul, Nat.reduceSub, ↓reduceIte, Int.reduceEq, Int.reduceNe, Nat.reduceLeDiff, one, Value.cells, Int.reduceLE, Int.reduceLT, Int.reduceToNat, add_mk, reduceCtorEq, tyF, h3, h6]
  refine ⟨fun h9 => ?_, fun h9 => ?_⟩
  · try simp only [Nat.zero_add] at ho1 h3
    simp (config := {maxSteps := 1000000}) only [↓zvD, zvU, ↓up_apply, ↓hv_apply, ↓upO_some, ↓upO_none, ↓ev_tmp, ↓ev_const, ↓ev_func, ↓ev_global, init, Nat.reduceEqDiff, Nat.reduceAdd, Nat.reduceMul, Nat.reduceSub, ↓reduceIte, Int.reduceEq, Int.reduceNe, Nat.reduceLeDiff, one, Value.cells, Int.reduceLE, Int.reduceLT, Int.reduceToNat, add_mk, reduceCtorEq, tyF, h3, h6, g0, h9, Int.toNat_natCast, Nat.zero_add]
    try simp only [Nat.zero_add] at ho1 h3
    refine bslice (z := .pointer none) (cells := #[.pointer (some ⟨p, 15 + k, none⟩)]) Try.underlying118 ptrE (by omega) (by have := bcells_list (z := .pointer none) [.pointer (some ⟨p, 15 + k, none⟩)] (by intro v hv; simp at hv; subst hv; rfl); exact this) ?_
    simp (config := {maxSteps := 1000000}) only [↓zvD, zvU, ↓up_apply, ↓hv_apply, ↓upO_some, ↓upO_none, ↓ev_tmp, ↓ev_const, ↓ev_func, ↓ev_global, init, Nat.reduceEqDiff, Nat.reduceAdd, Nat.reduceMul, Nat.reduceSub, ↓reduceIte, Int.reduceEq, Int.reduceNe, Nat.reduceLeDiff, one, Value.cells, Int.reduceLE, Int.reduceLT, Int.reduceToNat, add_mk, reduceCtorEq, tyF, h3]
    have hm6 := more_alloc w2 (.cells #[.pointer (some ⟨p, 15 + k, none⟩)] 120)
    have hb6 := Blk.new w2 120 #[.pointer (some ⟨p, 15 + k, none⟩)]
    generalize w2.alloc (.cells #[.pointer (some ⟨p, 15 + k, none⟩)] 120) = w6 at hm6 hb6 ⊢
    have hs1 := hm2.size
    have hs6 := hm6.size
    refine app_own (m := 1) Try.underlying118 ptrE rfl (by omega) (ho1.more hm6) hb6.cs rfl (by intro u hu; simp at hu; subst hu; rfl) (by simp only [maxLen]; omega) (by omega) (by omega) ?_
    intro A7 c7 w7 ho7 hg7 _
    simp (config := {maxSteps := 1000000}) only [↓zvD, zvU, ↓up_apply, ↓hv_apply, ↓upO_some, ↓upO_none, ↓ev_tmp, ↓ev_const, ↓ev_func, ↓ev_global, init, Nat.reduceEqDiff, Nat.reduceAdd, Nat.reduceMul, Nat.reduceSub, ↓reduceIte, Int.reduceEq, Int.reduceNe, Nat.reduceLeDiff, one, Value.cells, Int.reduceLE, Int.reduceLT, Int.reduceToNat, add_mk, reduceCtorEq, tyF, h6, ek]
    refine ⟨⟨?_, k + 1, A7, c7, by first | rfl | (congr 1; omega), rfl, by omega, ?_, grown_below (ho1.more hm6) (hm2.trans hm6) (by omega) hg7⟩, by simp only [numOf]; omega⟩
    · repeat (first | exact Same.hv _ _ _ | refine Same.up (by simp) ?_)
    · have e : 15 + (k + 1) = 15 + k + 1 := by omega
      rw [e, ptrs_succ]
      exact ho7
  obtain rfl : k = 16 := by omega
  simp (config := {maxSteps := 1000000}) only [↓zvD, zvU, ↓up_apply, ↓hv_apply, ↓upO_some, ↓upO_none, ↓ev_tmp, ↓ev_const, ↓ev_func, ↓ev_global, init, Nat.reduceEqDiff, Nat.reduceAdd, Nat.reduceMul, Nat.reduceSub, ↓reduceIte, Int.reduceEq, Int.reduceNe, Nat.reduceLeDiff, one, Value.cells, Int.reduceLE, Int.reduceLT, Int.reduceToNat, add_mk, reduceCtorEq, tyF, h3]
  exact ⟨A2, c2, rfl, ho1, hm2⟩
end Go.Proofs.Ytgbhgjghlnknjaa
