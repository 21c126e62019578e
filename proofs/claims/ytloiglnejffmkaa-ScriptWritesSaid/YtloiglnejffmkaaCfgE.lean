/-
  Layer 26: a config's bytes.
-/
import Derived.Test.YtloiglnejffmkaaCfgR
import Derived.Test.YtloiglnejffmkaaInts
namespace Go.Proofs.Ytloiglnejffmkaa
open Go Go.RowKit Go.Proofs.RV
set_option linter.unusedSimpArgs false
set_option linter.unusedVariables false
set_option maxRecDepth 10000
set_option maxHeartbeats 4000000

/-- pointers to k fields from place o on -/
def ptrsO (p o k : Nat) : List Value := (List.range k).map fun i => .pointer (some ⟨p, o + i, none⟩)
theorem ptrsO_at {p o k i : Nat} (h : i < k) : (ptrsO p o k)[i]? = some (.pointer (some ⟨p, o + i, none⟩)) := by simp [ptrsO, h]
theorem ptrsO_len (p o k : Nat) : (ptrsO p o k).length = k := by simp [ptrsO]
theorem ptrE_ints : ElemT Try.prog 227 (.pointer none) 1 8 := by unfold ElemT; kernel_rfl
theorem config_ints (w : World) (p : Nat) (cs : List Value) (hb : Blk w p 157 cs) :
    Ret Try.prog 128 #[.pointer (some ⟨p, 0, none⟩)] w fun v w' => ∃ b, v = .slice (some ⟨b, 0, none⟩) 8 8 ∧ w.heap.size ≤ b ∧ Blk w' b 227 (ptrsO p 0 8) ∧ More w w' := by
  refine ret_of Try.func128 rfl (by kernel_rfl) (Nat.le_of_ble_eq_true (by kernel_rfl)) ?_
  simp (config := {maxSteps := 1000000}) only [↓zvD, zvU, ↓up_apply, ↓hv_apply, ↓upO_some, ↓upO_none, ↓ev_tmp, ↓ev_const, ↓ev_func, ↓ev_global, init, Nat.reduceEqDiff, Nat.reduceAdd, Nat.reduceMul, Nat.reduceSub, ↓reduceIte, Int.reduceEq, Int.reduceNe, Nat.reduceLeDiff, one, Value.cells, Int.reduceLE, Int.reduceLT, Int.reduceToNat, add_mk, reduceCtorEq, List.mem_range'_1, true_and, and_true, and_false, false_and, Nat.reduceLT, Nat.reduceLeDiff, tyF]
  refine draw_seen 24 [[], [0], [0, 1], [], [3], [3, 4], [], [6], [6, 7], [], [9], [9, 10], [], [12], [12, 13], [], [15], [15, 16], [], [18], [18, 19], [], [21], [21, 22], [0, 1, 2, 3, 4, 5, 6, 7, 8, 9, 10, 11, 12, 13, 14, 15, 16, 17, 18, 19, 20, 21, 22, 23], [0, 1, 2, 3, 4, 5, 6, 7, 8, 9, 10, 11, 12, 13, 14, 15, 16, 17, 18, 19, 20, 21, 22, 23, 24]] (RV.look []) mixed (by kernel_rfl) (by kernel_rfl) (look_keeps _ (by simp)) ?_
  simp (config := {maxSteps := 1000000}) only [↓zvD, zvU, ↓zqD, ↓up_apply, ↓hv_apply, ↓upO_some, ↓upO_none, ↓ev_tmp, ↓ev_const, ↓ev_func, ↓ev_global, init, Nat.reduceEqDiff, Nat.reduceAdd, Nat.reduceMul, Nat.reduceSub, ↓reduceIte, Int.reduceEq, Int.reduceNe, Nat.reduceLeDiff, one, Value.cells, Int.reduceLE, Int.reduceLT, Int.reduceToNat, add_mk, reduceCtorEq, List.mem_range'_1, true_and, and_true, and_false, false_and, Nat.reduceLT, Nat.reduceLeDiff, tyF, Nat.zero_add]
  intro w1 hm1
  refine bslice (z := .pointer none) (cells := (ptrsO p 0 8).toArray) Try.underlying225 ptrE_ints (by omega) (by have := bcells_list (z := .pointer none) (ptrsO p 0 8) (by intro v hv; simp [ptrsO] at hv; obtain ⟨a, _, rfl⟩ := hv; rfl); exact this) ?_
  simp (config := {maxSteps := 1000000}) only [↓zvD, zvU, ↓up_apply, ↓hv_apply, ↓upO_some, ↓upO_none, ↓ev_tmp, ↓ev_const, ↓ev_func, ↓ev_global, init, Nat.reduceEqDiff, Nat.reduceAdd, Nat.reduceMul, Nat.reduceSub, ↓reduceIte, Int.reduceEq, Int.reduceNe, Nat.reduceLeDiff, one, Value.cells, Int.reduceLE, Int.reduceLT, Int.reduceToNat, add_mk, reduceCtorEq, List.mem_range'_1, true_and, and_true, and_false, false_and, Nat.reduceLT, Nat.reduceLeDiff, tyF, p_nil]
  have hm2 := more_alloc w1 (.cells (ptrsO p 0 8).toArray 227)
  exact ⟨w1.heap.size, rfl, hm1.size, Blk.new _ _ _, hm1.trans hm2⟩
theorem ptrE_longs : ElemT Try.prog 230 (.pointer none) 1 8 := by unfold ElemT; kernel_rfl
theorem config_longs (w : World) (p : Nat) (cs : List Value) (hb : Blk w p 157 cs) :
    Ret Try.prog 129 #[.pointer (some ⟨p, 0, none⟩)] w fun v w' => ∃ b, v = .slice (some ⟨b, 0, none⟩) 12 12 ∧ w.heap.size ≤ b ∧ Blk w' b 230 (ptrsO p 8 12) ∧ More w w' := by
  refine ret_of Try.func129 rfl (by kernel_rfl) (Nat.le_of_ble_eq_true (by kernel_rfl)) ?_
  simp (config := {maxSteps := 1000000}) only [↓zvD, zvU, ↓up_apply, ↓hv_apply, ↓upO_some, ↓upO_none, ↓ev_tmp, ↓ev_const, ↓ev_func, ↓ev_global, init, Nat.reduceEqDiff, Nat.reduceAdd, Nat.reduceMul, Nat.reduceSub, ↓reduceIte, Int.reduceEq, Int.reduceNe, Nat.reduceLeDiff, one, Value.cells, Int.reduceLE, Int.reduceLT, Int.reduceToNat, add_mk, reduceCtorEq, List.mem_range'_1, true_and, and_true, and_false, false_and, Nat.reduceLT, Nat.reduceLeDiff, tyF]
  refine draw_seen 36 [[], [0], [0, 1], [], [3], [3, 4], [], [6], [6, 7], [], [9], [9, 10], [], [12], [12, 13], [], [15], [15, 16], [], [18], [18, 19], [], [21], [21, 22], [], [24], [24, 25], [], [27], [27, 28], [], [30], [30, 31], [], [33], [33, 34], [0, 1, 2, 3, 4, 5, 6, 7, 8, 9, 10, 11, 12, 13, 14, 15, 16, 17, 18, 19, 20, 21, 22, 23, 24, 25, 26, 27, 28, 29, 30, 31, 32, 33, 34, 35], [0, 1, 2, 3, 4, 5, 6, 7, 8, 9, 10, 11, 12, 13, 14, 15, 16, 17, 18, 19, 20, 21, 22, 23, 24, 25, 26, 27, 28, 29, 30, 31, 32, 33, 34, 35, 36]] (RV.look []) mixed (by kernel_rfl) (by kernel_rfl) (look_keeps _ (by simp)) ?_
  simp (config := {maxSteps := 1000000}) only [↓zvD, zvU, ↓zqD, ↓up_apply, ↓hv_apply, ↓upO_some, ↓upO_none, ↓ev_tmp, ↓ev_const, ↓ev_func, ↓ev_global, init, Nat.reduceEqDiff, Nat.reduceAdd, Nat.reduceMul, Nat.reduceSub, ↓reduceIte, Int.reduceEq, Int.reduceNe, Nat.reduceLeDiff, one, Value.cells, Int.reduceLE, Int.reduceLT, Int.reduceToNat, add_mk, reduceCtorEq, List.mem_range'_1, true_and, and_true, and_false, false_and, Nat.reduceLT, Nat.reduceLeDiff, tyF, Nat.zero_add]
  intro w1 hm1
  refine bslice (z := .pointer none) (cells := (ptrsO p 8 12).toArray) Try.underlying228 ptrE_longs (by omega) (by have := bcells_list (z := .pointer none) (ptrsO p 8 12) (by intro v hv; simp [ptrsO] at hv; obtain ⟨a, _, rfl⟩ := hv; rfl); exact this) ?_
  simp (config := {maxSteps := 1000000}) only [↓zvD, zvU, ↓up_apply, ↓hv_apply, ↓upO_some, ↓upO_none, ↓ev_tmp, ↓ev_const, ↓ev_func, ↓ev_global, init, Nat.reduceEqDiff, Nat.reduceAdd, Nat.reduceMul, Nat.reduceSub, ↓reduceIte, Int.reduceEq, Int.reduceNe, Nat.reduceLeDiff, one, Value.cells, Int.reduceLE, Int.reduceLT, Int.reduceToNat, add_mk, reduceCtorEq, List.mem_range'_1, true_and, and_true, and_false, false_and, Nat.reduceLT, Nat.reduceLeDiff, tyF, p_nil]
  have hm2 := more_alloc w1 (.cells (ptrsO p 8 12).toArray 230)
  exact ⟨w1.heap.size, rfl, hm1.size, Blk.new _ _ _, hm1.trans hm2⟩

theorem ptrs_cell {w : World} {b p o k e i : Nat} (hb : Blk w b e (ptrsO p o k)) (h : i < k) : w.cell? ⟨b, i, none⟩ = some (.pointer (some ⟨p, o + i, none⟩)) := by
  rw [hb.cell]; exact ptrsO_at h
/-- a config's bytes -/
def encC : List Int → List UInt8
  | [] => []
  | n :: r => numB (IntKind.u64.wrap n) 8 ++ encC r
theorem encC_len : ∀ s, (encC s).length = 8 * s.length
  | [] => rfl
  | n :: r => by rw [encC, List.length_append, numB_len, encC_len r, List.length_cons]; omega
theorem encC_append : ∀ a b, encC (a ++ b) = encC a ++ encC b
  | [], b => rfl
  | n :: r, b => by rw [List.cons_append, encC, encC, encC_append r b, List.append_assoc]
theorem encC_step (s : List Int) {k : Nat} (h : k < s.length) : encC (s.take (k + 1)) = encC (s.take k) ++ numB (IntKind.u64.wrap (s.getD k 0)) 8 := by
  rw [List.take_succ_eq_append_getElem h, encC_append, encC, encC, List.append_nil]
  simp [h]
theorem wrapu_nonneg (x : Int) : 0 ≤ IntKind.u64.wrap x := by
  simp [IntKind.wrap, IntKind.signed, IntKind.bits]; omega
def EncK (c : List Int) (w : World) (q p b P o n : Nat) (v : Value) (w' : World) : Prop :=
  ∃ (k : Nat) (A : Option Addr) (cp : Nat), v = .int .i64 k ∧ k ≤ n ∧ OutAt w' q q A cp (encC (c.take (o + k))) ∧ (∀ i, atB A i → i ≠ b) ∧ Blk w' p 157 (ints c) ∧ Blk w' b P (ptrsO p o n) ∧ More w w'
def EncCR (c : List Int) (w : World) (v : Value) (w' : World) : Prop := More w w' ∧ (rightM c → ∃ A cp, v = .tuple #[.slice A 160 cp, .int .i64 0] ∧ Own w' w.heap.size 5 1 A 160 cp ((encC c).map byteV)) ∧ (¬ rightM c → v = .tuple #[.slice none 0 0, .int .i64 5])
open Classical in
theorem config_encode (w : World) (c : List Int) (hc : c.length = 20) :
    Ret Try.prog 113 #[.agg (ints c).toArray] w (EncCR c w) := by
  refine ret_of Try.func113 rfl (by kernel_rfl) (Nat.le_of_ble_eq_true (by kernel_rfl)) ?_
  have hm1 := more_alloc w (.cells (ints c).toArray 157)
  have hb1 := Blk.new w 157 (ints c).toArray
  have s1 := size_alloc w (.cells (ints c).toArray 157)
  simp (config := {maxSteps := 1000000}) only [↓zvD, zvU, ↓up_apply, ↓hv_apply, ↓upO_some, ↓upO_none, ↓ev_tmp, ↓ev_const, ↓ev_func, ↓ev_global, init, Nat.reduceEqDiff, Nat.reduceAdd, Nat.reduceMul, Nat.reduceSub, ↓reduceIte, Int.reduceEq, Int.reduceNe, Nat.reduceLeDiff, one, Value.cells, Int.reduceLE, Int.reduceLT, Int.reduceToNat, add_mk, reduceCtorEq, List.mem_range'_1, true_and, and_true, and_false, false_and, Nat.reduceLT, Nat.reduceLeDiff, tyF]
  generalize w.alloc (.cells (ints c).toArray 157) = w1 at hm1 hb1 s1 ⊢
  rw [List.toList_toArray] at hb1
  have hv := hb1.all_eq 20 (by rw [ints_len, hc])
  simp (config := {maxSteps := 1000000}) only [↓zvD, zvU, ↓up_apply, ↓hv_apply, ↓upO_some, ↓upO_none, ↓ev_tmp, ↓ev_const, ↓ev_func, ↓ev_global, init, Nat.reduceEqDiff, Nat.reduceAdd, Nat.reduceMul, Nat.reduceSub, ↓reduceIte, Int.reduceEq, Int.reduceNe, Nat.reduceLeDiff, one, Value.cells, Int.reduceLE, Int.reduceLT, Int.reduceToNat, add_mk, reduceCtorEq, List.mem_range'_1, true_and, and_true, and_false, false_and, Nat.reduceLT, Nat.reduceLeDiff, tyF, hv]
  refine call_ok Try.call130 (config_right w1 c hc) ?_
  rintro _ w2 ⟨rfl, hm2⟩
  by_cases hr : rightM c
  rotate_left
  · rw [decide_eq_false hr]
    simp (config := {maxSteps := 1000000}) only [↓zvD, zvU, ↓up_apply, ↓hv_apply, ↓upO_some, ↓upO_none, ↓ev_tmp, ↓ev_const, ↓ev_func, ↓ev_global, init, Nat.reduceEqDiff, Nat.reduceAdd, Nat.reduceMul, Nat.reduceSub, ↓reduceIte, Int.reduceEq, Int.reduceNe, Nat.reduceLeDiff, one, Value.cells, Int.reduceLE, Int.reduceLT, Int.reduceToNat, add_mk, reduceCtorEq, List.mem_range'_1, true_and, and_true, and_false, false_and, Nat.reduceLT, Nat.reduceLeDiff, tyF]
    exact ⟨hm1.trans hm2, fun h => absurd h hr, fun _ => rfl⟩
  rw [decide_eq_true hr]
  simp (config := {maxSteps := 1000000}) only [↓zvD, zvU, ↓up_apply, ↓hv_apply, ↓upO_some, ↓upO_none, ↓ev_tmp, ↓ev_const, ↓ev_func, ↓ev_global, init, Nat.reduceEqDiff, Nat.reduceAdd, Nat.reduceMul, Nat.reduceSub, ↓reduceIte, Int.reduceEq, Int.reduceNe, Nat.reduceLeDiff, one, Value.cells, Int.reduceLE, Int.reduceLT, Int.reduceToNat, add_mk, reduceCtorEq, List.mem_range'_1, true_and, and_true, and_false, false_and, Nat.reduceLT, Nat.reduceLeDiff, tyF, zerOut]
  have hm3 := more_alloc w2 (.cells #[.slice none 0 0] 25)
  have ho3 := out_made w2
  have s3 := size_alloc w2 (.cells #[.slice none 0 0] 25)
  have s2 := hm2.size
  generalize w2.alloc (.cells #[.slice none 0 0] 25) = w3 at hm3 ho3 s3 ⊢
  have hb3 := hb1.more (hm2.trans hm3)
  have hM3 := (hm1.trans hm2).trans hm3
  have hpq : w.heap.size < w2.heap.size := by omega
  generalize hpp : w.heap.size = p at hpq hb3 s1
  generalize hqq : w2.heap.size = q at hpq ho3 s3
  try rw [hpp]
  try rw [hqq]
  refine call_ok Try.call128 (config_ints w3 p (ints c) hb3) ?_
  rintro _ w4 ⟨b4, rfl, hb4, hp4, hm4⟩
  simp (config := {maxSteps := 1000000}) only [↓zvD, zvU, ↓up_apply, ↓hv_apply, ↓upO_some, ↓upO_none, ↓ev_tmp, ↓ev_const, ↓ev_func, ↓ev_global, init, Nat.reduceEqDiff, Nat.reduceAdd, Nat.reduceMul, Nat.reduceSub, ↓reduceIte, Int.reduceEq, Int.reduceNe, Nat.reduceLeDiff, one, Value.cells, Int.reduceLE, Int.reduceLT, Int.reduceToNat, add_mk, reduceCtorEq, List.mem_range'_1, true_and, and_true, and_false, false_and, Nat.reduceLT, Nat.reduceLeDiff, tyF]
  have hA0 : ∀ i, atB none i → i ≠ b4 := fun i hi => (atB_none i hi).elim
  refine loop_p [6, 14, 15, 16, 17, 18, 19, 20, 21, 22, 23] (fun e w' => EncK c w q p b4 227 0 8 (e 14) w') (fun e _ => 8 - (numOf (e 14)).toNat) ?_ ?_
  · exact ⟨0, _, _, by simp only [hv_apply, up_apply, upO_some, upO_none, init, List.mem_cons, List.mem_range'_1, true_and, and_true, and_false, false_and, Nat.reduceLT, Nat.reduceLeDiff, Nat.reduceAdd, true_or, or_true, if_true, if_false, ↓reduceIte, Nat.reduceEqDiff, false_or, or_false, List.not_mem_nil, List.getElem?_cons_zero, List.getElem?_cons_succ, Option.getD_some] <;> rfl, by omega, ho3.more hm4, hA0, hb3.more hm4, hp4, hM3.trans hm4⟩
  rintro v w5 ⟨k, A5, c5, h8, hk, ho5, hat5, hb5, hp5, hm5⟩
  simp only [hv_apply, up_apply, upO_some, upO_none, init, List.mem_cons, List.mem_range'_1, true_and, and_true, and_false, false_and, Nat.reduceLT, Nat.reduceLeDiff, Nat.reduceAdd, true_or, or_true, if_true, if_false, ↓reduceIte, Nat.reduceEqDiff, false_or, or_false, List.not_mem_nil, List.getElem?_cons_zero, List.getElem?_cons_succ, Option.getD_some] at h8
  have ek : IntKind.i64.wrap ((k : Int) + 1) = ((k + 1 : Nat) : Int) := w64 (by omega) (by omega)
  have g0 : (0 : Int) ≤ (k : Int) := by omega
  simp (config := {maxSteps := 1000000}) only [↓zvD, zvU, ↓up_apply, ↓hv_apply, ↓upO_some, ↓upO_none, ↓ev_tmp, ↓ev_const, ↓ev_func, ↓ev_global, init, Nat.reduceEqDiff, Nat.reduceAdd, Nat.reduceMul, Nat.reduceSub, ↓reduceIte, Int.reduceEq, Int.reduceNe, Nat.reduceLeDiff, one, Value.cells, Int.reduceLE, Int.reduceLT, Int.reduceToNat, add_mk, reduceCtorEq, List.mem_range'_1, true_and, and_true, and_false, false_and, Nat.reduceLT, Nat.reduceLeDiff, tyF, h8]
  refine ⟨fun h9 => ?_, fun h9 => ?_⟩
  · have hk1 : k < 8 := by omega
    have hc := ptrs_cell hp5 hk1
    have hv := hb5.cell
    have hx := ints_at (s := c) (k := 0 + k) (by omega)
    try simp only [Nat.zero_add] at hx hc
    simp (config := {maxSteps := 1000000}) only [↓zvD, zvU, ↓up_apply, ↓hv_apply, ↓upO_some, ↓upO_none, ↓ev_tmp, ↓ev_const, ↓ev_func, ↓ev_global, init, Nat.reduceEqDiff, Nat.reduceAdd, Nat.reduceMul, Nat.reduceSub, ↓reduceIte, Int.reduceEq, Int.reduceNe, Nat.reduceLeDiff, one, Value.cells, Int.reduceLE, Int.reduceLT, Int.reduceToNat, add_mk, reduceCtorEq, List.mem_range'_1, true_and, and_true, and_false, false_and, Nat.reduceLT, Nat.reduceLeDiff, tyF, h8, g0, h9, hc, hv, hx, Int.toNat_natCast]
    try simp only [Nat.zero_add] at hx hc
    have hel := encC_len (c.take (0 + k))
    have htl : (c.take (0 + k)).length = 0 + k := by rw [List.length_take]; omega
    have hs5 := hm5.size
    have hq5 := ho5.1.lt
    refine call_ok Try.call29 (out_u64 _ _ _ _ _ _ _ ho5 (by omega) (wrapu_nonneg _) (by omega)) ?_
    rintro _ w6 ⟨rfl, A6, c6, ho6, hm6, hat6⟩
    have hb6 := out_keep ho5 hm6 hb5 hpq
    have hM6 := out_more ho5 hm6 hm5 (by omega)
    have hp6 := hm6.blk hp5 (fun h => by
      rcases h with h | h
      · omega
      · exact hat5 _ h rfl)
    simp (config := {maxSteps := 1000000}) only [↓zvD, zvU, ↓up_apply, ↓hv_apply, ↓upO_some, ↓upO_none, ↓ev_tmp, ↓ev_const, ↓ev_func, ↓ev_global, init, Nat.reduceEqDiff, Nat.reduceAdd, Nat.reduceMul, Nat.reduceSub, ↓reduceIte, Int.reduceEq, Int.reduceNe, Nat.reduceLeDiff, one, Value.cells, Int.reduceLE, Int.reduceLT, Int.reduceToNat, add_mk, reduceCtorEq, List.mem_range'_1, true_and, and_true, and_false, false_and, Nat.reduceLT, Nat.reduceLeDiff, tyF, h8, ek]
    refine ⟨⟨?_, k + 1, A6, c6, rfl, by omega, ?_, ?_, hb6, hp6, hM6⟩, by simp only [numOf]; omega⟩
    · repeat (first | exact Same.hv _ _ _ | refine Same.up (by simp) ?_)
    · rw [show 0 + (k + 1) = 0 + k + 1 by omega, encC_step c (by omega)]
      try simp only [Nat.zero_add] at ho6 ⊢
      exact ho6
    · intro i hi hib
      have hbl := hp5.lt
      rcases hat6 i (.inr hi) with h | h
      · rcases h with h | h
        · omega
        · exact hat5 _ h hib
      · omega
  obtain rfl : k = 8 := by omega
  refine call_ok Try.call129 (config_longs w5 p (ints c) hb5) ?_
  rintro _ w7 ⟨b7, rfl, hb7, hp4, hm7⟩
  simp (config := {maxSteps := 1000000}) only [↓zvD, zvU, ↓up_apply, ↓hv_apply, ↓upO_some, ↓upO_none, ↓ev_tmp, ↓ev_const, ↓ev_func, ↓ev_global, init, Nat.reduceEqDiff, Nat.reduceAdd, Nat.reduceMul, Nat.reduceSub, ↓reduceIte, Int.reduceEq, Int.reduceNe, Nat.reduceLeDiff, one, Value.cells, Int.reduceLE, Int.reduceLT, Int.reduceToNat, add_mk, reduceCtorEq, List.mem_range'_1, true_and, and_true, and_false, false_and, Nat.reduceLT, Nat.reduceLeDiff, tyF]
  have ho7 := ho5.more hm7
  have hb7' := hb5.more hm7
  have hM7 := hm5.trans hm7
  have hA7 : ∀ i, atB A5 i → i ≠ b7 := fun i hi => by have := (ho5.ge (.inr hi)).2; omega
  have hqb : q < b7 := by have := ho5.1.lt; omega
  clear ho5 hat5 hb5 hp5 hm5 h8 hk ek g0 h9
  refine loop_p [8, 26, 27, 28, 29, 30, 31, 32, 33, 34, 35] (fun e w' => EncK c w q p b7 230 8 12 (e 26) w') (fun e _ => 12 - (numOf (e 26)).toNat) ?_ ?_
  · exact ⟨0, _, _, by simp only [hv_apply, up_apply, upO_some, upO_none, init, List.mem_cons, List.mem_range'_1, true_and, and_true, and_false, false_and, Nat.reduceLT, Nat.reduceLeDiff, Nat.reduceAdd, true_or, or_true, if_true, if_false, ↓reduceIte, Nat.reduceEqDiff, false_or, or_false, List.not_mem_nil, List.getElem?_cons_zero, List.getElem?_cons_succ, Option.getD_some] <;> rfl, by omega, ho7, hA7, hb7', hp4, hM7⟩
  rintro v w8 ⟨k, A8, c8, h8, hk, ho5, hat5, hb5, hp5, hm5⟩
  simp only [hv_apply, up_apply, upO_some, upO_none, init, List.mem_cons, List.mem_range'_1, true_and, and_true, and_false, false_and, Nat.reduceLT, Nat.reduceLeDiff, Nat.reduceAdd, true_or, or_true, if_true, if_false, ↓reduceIte, Nat.reduceEqDiff, false_or, or_false, List.not_mem_nil, List.getElem?_cons_zero, List.getElem?_cons_succ, Option.getD_some] at h8
  have ek : IntKind.i64.wrap ((k : Int) + 1) = ((k + 1 : Nat) : Int) := w64 (by omega) (by omega)
  have g0 : (0 : Int) ≤ (k : Int) := by omega
  simp (config := {maxSteps := 1000000}) only [↓zvD, zvU, ↓up_apply, ↓hv_apply, ↓upO_some, ↓upO_none, ↓ev_tmp, ↓ev_const, ↓ev_func, ↓ev_global, init, Nat.reduceEqDiff, Nat.reduceAdd, Nat.reduceMul, Nat.reduceSub, ↓reduceIte, Int.reduceEq, Int.reduceNe, Nat.reduceLeDiff, one, Value.cells, Int.reduceLE, Int.reduceLT, Int.reduceToNat, add_mk, reduceCtorEq, List.mem_range'_1, true_and, and_true, and_false, false_and, Nat.reduceLT, Nat.reduceLeDiff, tyF, h8]
  refine ⟨fun h9 => ?_, fun h9 => ?_⟩
  · have hk1 : k < 12 := by omega
    have hc := ptrs_cell hp5 hk1
    have hv := hb5.cell
    have hx := ints_at (s := c) (k := 8 + k) (by omega)
    try simp only [Nat.zero_add] at hx hc
    simp (config := {maxSteps := 1000000}) only [↓zvD, zvU, ↓up_apply, ↓hv_apply, ↓upO_some, ↓upO_none, ↓ev_tmp, ↓ev_const, ↓ev_func, ↓ev_global, init, Nat.reduceEqDiff, Nat.reduceAdd, Nat.reduceMul, Nat.reduceSub, ↓reduceIte, Int.reduceEq, Int.reduceNe, Nat.reduceLeDiff, one, Value.cells, Int.reduceLE, Int.reduceLT, Int.reduceToNat, add_mk, reduceCtorEq, List.mem_range'_1, true_and, and_true, and_false, false_and, Nat.reduceLT, Nat.reduceLeDiff, tyF, h8, g0, h9, hc, hv, hx, Int.toNat_natCast]
    try simp only [Nat.zero_add] at hx hc
    have hel := encC_len (c.take (8 + k))
    have htl : (c.take (8 + k)).length = 8 + k := by rw [List.length_take]; omega
    have hs5 := hm5.size
    have hq5 := ho5.1.lt
    refine call_ok Try.call29 (out_u64 _ _ _ _ _ _ _ ho5 (by omega) (wrapu_nonneg _) (by omega)) ?_
    rintro _ w6 ⟨rfl, A6, c6, ho6, hm6, hat6⟩
    have hb6 := out_keep ho5 hm6 hb5 hpq
    have hM6 := out_more ho5 hm6 hm5 (by omega)
    have hp6 := hm6.blk hp5 (fun h => by
      rcases h with h | h
      · omega
      · exact hat5 _ h rfl)
    simp (config := {maxSteps := 1000000}) only [↓zvD, zvU, ↓up_apply, ↓hv_apply, ↓upO_some, ↓upO_none, ↓ev_tmp, ↓ev_const, ↓ev_func, ↓ev_global, init, Nat.reduceEqDiff, Nat.reduceAdd, Nat.reduceMul, Nat.reduceSub, ↓reduceIte, Int.reduceEq, Int.reduceNe, Nat.reduceLeDiff, one, Value.cells, Int.reduceLE, Int.reduceLT, Int.reduceToNat, add_mk, reduceCtorEq, List.mem_range'_1, true_and, and_true, and_false, false_and, Nat.reduceLT, Nat.reduceLeDiff, tyF, h8, ek]
    refine ⟨⟨?_, k + 1, A6, c6, rfl, by omega, ?_, ?_, hb6, hp6, hM6⟩, by simp only [numOf]; omega⟩
    · repeat (first | exact Same.hv _ _ _ | refine Same.up (by simp) ?_)
    · rw [show 8 + (k + 1) = 8 + k + 1 by omega, encC_step c (by omega)]
      try simp only [Nat.zero_add] at ho6 ⊢
      exact ho6
    · intro i hi hib
      have hbl := hp5.lt
      rcases hat6 i (.inr hi) with h | h
      · rcases h with h | h
        · omega
        · exact hat5 _ h hib
      · omega
  obtain rfl : k = 12 := by omega
  rw [List.take_of_length_le (by omega)] at ho5
  have el := encC_len c
  refine call_ok Try.call19 (out_bytes w8 _ _ A8 c8 _ ho5 (by omega)) ?_
  rintro _ w9 ⟨A9, c9, rfl, ho9, hm9⟩
  rw [show (encC c).length = 160 by omega] at ho9 ⊢
  simp (config := {maxSteps := 1000000}) only [↓zvD, zvU, ↓up_apply, ↓hv_apply, ↓upO_some, ↓upO_none, ↓ev_tmp, ↓ev_const, ↓ev_func, ↓ev_global, init, Nat.reduceEqDiff, Nat.reduceAdd, Nat.reduceMul, Nat.reduceSub, ↓reduceIte, Int.reduceEq, Int.reduceNe, Nat.reduceLeDiff, one, Value.cells, Int.reduceLE, Int.reduceLT, Int.reduceToNat, add_mk, reduceCtorEq, List.mem_range'_1, true_and, and_true, and_false, false_and, Nat.reduceLT, Nat.reduceLeDiff, tyF]
  exact ⟨hm5.trans hm9, fun _ => ⟨A9, c9, rfl, ho9.mono hm5.size⟩, fun h => absurd hr h⟩
end Go.Proofs.Ytloiglnejffmkaa
