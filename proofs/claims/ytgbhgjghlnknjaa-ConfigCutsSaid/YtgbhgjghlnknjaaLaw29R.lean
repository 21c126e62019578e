/-
  Layer 29: plain laws of stats' bytes; StatsNil, StatsRead.
-/
import Derived.Test.YtgbhgjghlnknjaaLaw29L
import Derived.Test.YtgbhgjghlnknjaaRef01
namespace Go.Proofs.Ytgbhgjghlnknjaa
open Go Go.RowKit Go.Proofs.RV
set_option linter.unusedSimpArgs false
set_option linter.unusedVariables false
set_option maxRecDepth 10000
set_option maxHeartbeats 4000000

theorem pow_cast (a b : Nat) : ((256 ^ (a + b) : Nat) : Int) = ((256 ^ a : Nat) : Int) * ((256 ^ b : Nat) : Int) := by
  rw [Nat.pow_add]; simp
theorem dig_high (a r : Int) (m k : Nat) (h : k < m) : dig (a * (256 ^ m : Nat) + r) k = dig r k := by
  unfold dig
  obtain ⟨d, rfl⟩ : ∃ d, m = k + 1 + d := ⟨m - k - 1, by omega⟩
  have e : a * ((256 ^ (k + 1 + d) : Nat) : Int) + r = r + (a * ((256 ^ d : Nat) : Int) * 256) * ((256 ^ k : Nat) : Int) := by
    have : (256 ^ (k + 1 + d) : Nat) = 256 ^ d * 256 * 256 ^ k := by
      rw [show k + 1 + d = d + 1 + k by omega, Nat.pow_add, Nat.pow_succ]
    rw [this]
    simp only [Int.natCast_mul]
    rw [← Int.mul_assoc, ← Int.mul_assoc, Int.add_comm]
    rfl
  have hp : ((256 ^ k : Nat) : Int) ≠ 0 := by have : 0 < 256 ^ k := Nat.pow_pos (by omega); omega
  rw [e, Int.add_mul_ediv_right _ _ hp, Int.add_mul_emod_self_right]
theorem numB_high (a r : Int) (m : Nat) : ∀ k, k ≤ m → numB (a * (256 ^ m : Nat) + r) k = numB r k
  | 0, _ => rfl
  | k + 1, h => by rw [numB, numB, dig_high a r m k (by omega), numB_high a r m k (by omega)]
theorem numB_be : ∀ l : List UInt8, numB (be l) l.length = l
  | [] => rfl
  | b :: l => by
    have hr := be_range l
    rw [be_cons, List.length_cons, numB, numB_high _ _ _ _ (Nat.le_refl _), numB_be l]
    have hd : dig ((b.toNat : Int) * (256 ^ l.length : Nat) + be l) l.length = b.toNat := by
      unfold dig
      have hp : ((256 ^ l.length : Nat) : Int) ≠ 0 := by have : 0 < 256 ^ l.length := Nat.pow_pos (by omega); omega
      rw [Int.add_comm, Int.add_mul_ediv_right _ _ hp, Int.ediv_eq_zero_of_lt hr.1 hr.2]
      have := b.toNat_lt
      omega
    rw [hd]
    congr 1
    unfold u8
    simp
theorem numAt_cons (l : List UInt8) (k : Nat) : numAt l (k + 1) = numAt (l.drop 8) k := by
  unfold numAt
  rw [List.drop_drop, show 8 + 8 * k = 8 * (k + 1) by omega]
theorem encM_at : ∀ (s : List Int) (k : Nat), k < s.length → numAt (encM s) k = countM (s.getD k 0)
  | [], k, h => by simp at h
  | n :: r, 0, h => by
    have hr := countM_range n
    unfold numAt encM
    rw [Nat.mul_zero, List.drop_zero, List.take_append_of_le_length (by rw [numB_len]; omega), List.take_of_length_le (by rw [numB_len]; omega), be_numB hr.1]
    show countM n % 18446744073709551616 = countM n
    omega
  | n :: r, k + 1, h => by
    rw [numAt_cons, encM]
    have : (numB (countM n) 8 ++ encM r).drop 8 = encM r := by
      have h8 := numB_len (countM n) 8
      conv => lhs; rw [← h8]
      rw [h8, List.drop_append_of_le_length (by omega), List.drop_of_length_le (by omega)]
      rfl
    rw [this]
    exact encM_at r k (by simpa using h)
theorem encM_ok {s : List Int} (h : s.length = 31) : okStats (encM s) :=
  ⟨by rw [encM_len, h], fun i hi => by rw [encM_at s i (by omega)]; exact (countM_range _).2⟩
theorem decM_encM {s : List Int} (h : s.length = 31) : decM (encM s) = (s.map countM, 0) := by
  unfold decM
  rw [if_pos (encM_ok h)]
  congr 1
  apply List.ext_getElem
  · simp [nums, h]
  · intro i h1 h2
    simp only [List.length_map] at h2
    simp only [nums, List.getElem_map, List.getElem_range]
    rw [encM_at s i h2]
    simp [h2]
theorem encM_nums : ∀ (n : Nat) (l : List UInt8), l.length = 8 * n → (∀ i, i < n → numAt l i ≤ 4611686018427387904) → encM ((List.range n).map (numAt l)) = l
  | 0, l, h, _ => by
    obtain rfl : l = [] := List.eq_nil_of_length_eq_zero (by omega)
    rfl
  | n + 1, l, h, hi => by
    rw [List.range_succ_eq_map, List.map_cons, encM, List.map_map]
    have e : (List.range n).map (numAt l ∘ Nat.succ) = (List.range n).map (numAt (l.drop 8)) := List.map_congr_left fun k _ => numAt_cons l k
    rw [e, encM_nums n (l.drop 8) (by rw [List.length_drop]; omega) (fun i h => by rw [← numAt_cons]; exact hi (i + 1) (by omega))]
    have h0 := hi 0 (by omega)
    have hl : (l.take 8).length = 8 := by rw [List.length_take]; omega
    have en : numAt l 0 = be (l.take 8) := by unfold numAt; simp
    have ec : countM (numAt l 0) = be (l.take 8) := by
      have := be_range (l.take 8)
      rw [en] at h0 ⊢
      unfold countM; omega
    rw [ec]
    have := numB_be (l.take 8)
    rw [hl] at this
    rw [this, List.take_append_drop]
theorem encM_decM {l : List UInt8} (h : okStats l) : encM (nums l) = l := encM_nums 31 l (by have := h.1; omega) h.2

theorem stats_add_nil (w : World) (k n : Int) : Ret Try.prog 39 #[.pointer none, .int .i64 k, .int .i64 n] w fun v w' => v = .tuple #[] ∧ w' = w := by
  refine ret_of Try.func39 rfl (by kernel_rfl) (Nat.le_of_ble_eq_true (by kernel_rfl)) ?_
  simp (config := {maxSteps := 1000000}) only [↓zvD, zvU, ↓up_apply, ↓hv_apply, ↓upO_some, ↓upO_none, ↓ev_tmp, ↓ev_const, ↓ev_func, ↓ev_global, init, Nat.reduceEqDiff, Nat.reduceAdd, Nat.reduceMul, Nat.reduceSub, ↓reduceIte, Int.reduceEq, Int.reduceNe, Nat.reduceLeDiff, one, Value.cells, Int.reduceLE, Int.reduceLT, Int.reduceToNat, add_mk, reduceCtorEq, List.mem_range'_1, true_and, and_true, and_false, false_and, Nat.reduceLT, Nat.reduceLeDiff, tyF]
theorem stats_because_nil (w : World) (k n : Int) : Ret Try.prog 38 #[.pointer none, .int .i64 k, .int .i64 n] w fun v w' => v = .tuple #[] ∧ w' = w := by
  refine ret_of Try.func38 rfl (by kernel_rfl) (Nat.le_of_ble_eq_true (by kernel_rfl)) ?_
  simp (config := {maxSteps := 1000000}) only [↓zvD, zvU, ↓up_apply, ↓hv_apply, ↓upO_some, ↓upO_none, ↓ev_tmp, ↓ev_const, ↓ev_func, ↓ev_global, init, Nat.reduceEqDiff, Nat.reduceAdd, Nat.reduceMul, Nat.reduceSub, ↓reduceIte, Int.reduceEq, Int.reduceNe, Nat.reduceLeDiff, one, Value.cells, Int.reduceLE, Int.reduceLT, Int.reduceToNat, add_mk, reduceCtorEq, List.mem_range'_1, true_and, and_true, and_false, false_and, Nat.reduceLT, Nat.reduceLeDiff, tyF]
theorem stats_nil (w : World) (kind n : Int) :
    Ret Try.prog 16 #[.int .i64 kind, .int .i64 n] w fun v w' => v = .bool true ∧ More w w' := by
  refine ret_of Try.func16 rfl (by kernel_rfl) (Nat.le_of_ble_eq_true (by kernel_rfl)) ?_
  simp (config := {maxSteps := 1000000}) only [↓zvD, zvU, ↓up_apply, ↓hv_apply, ↓upO_some, ↓upO_none, ↓ev_tmp, ↓ev_const, ↓ev_func, ↓ev_global, init, Nat.reduceEqDiff, Nat.reduceAdd, Nat.reduceMul, Nat.reduceSub, ↓reduceIte, Int.reduceEq, Int.reduceNe, Nat.reduceLeDiff, one, Value.cells, Int.reduceLE, Int.reduceLT, Int.reduceToNat, add_mk, reduceCtorEq, List.mem_range'_1, true_and, and_true, and_false, false_and, Nat.reduceLT, Nat.reduceLeDiff, tyF]
  refine call_ok Try.call39 (stats_add_nil w kind n) ?_
  rintro _ w1 ⟨rfl, rfl⟩
  simp (config := {maxSteps := 1000000}) only [↓zvD, zvU, ↓up_apply, ↓hv_apply, ↓upO_some, ↓upO_none, ↓ev_tmp, ↓ev_const, ↓ev_func, ↓ev_global, init, Nat.reduceEqDiff, Nat.reduceAdd, Nat.reduceMul, Nat.reduceSub, ↓reduceIte, Int.reduceEq, Int.reduceNe, Nat.reduceLeDiff, one, Value.cells, Int.reduceLE, Int.reduceLT, Int.reduceToNat, add_mk, reduceCtorEq, List.mem_range'_1, true_and, and_true, and_false, false_and, Nat.reduceLT, Nat.reduceLeDiff, tyF]
  refine call_ok Try.call38 (stats_because_nil w1 kind n) ?_
  rintro _ w2 ⟨rfl, rfl⟩
  simp (config := {maxSteps := 1000000}) only [↓zvD, zvU, ↓up_apply, ↓hv_apply, ↓upO_some, ↓upO_none, ↓ev_tmp, ↓ev_const, ↓ev_func, ↓ev_global, init, Nat.reduceEqDiff, Nat.reduceAdd, Nat.reduceMul, Nat.reduceSub, ↓reduceIte, Int.reduceEq, Int.reduceNe, Nat.reduceLeDiff, one, Value.cells, Int.reduceLE, Int.reduceLT, Int.reduceToNat, add_mk, reduceCtorEq, List.mem_range'_1, true_and, and_true, and_false, false_and, Nat.reduceLT, Nat.reduceLeDiff, tyF, zerStats]
  have hm2 := more_alloc w2 (.cells (ints z31).toArray 65)
  have hb2 := Blk.new w2 65 (ints z31).toArray
  have s2 := size_alloc w2 (.cells (ints z31).toArray 65)
  generalize w2.alloc (.cells (ints z31).toArray 65) = w3 at hm2 hb2 s2 ⊢
  rw [List.toList_toArray] at hb2
  refine st_cell hb2 (by simp [ints, z31]) rfl fun w4 k1 k2 => ?_
  have e2 : (ints z31).set 0 (.int .i64 n) = ints (z31.set 0 n) := rfl
  rw [e2] at k2
  have hm4 := k1.below hm2 (Nat.le_refl _)
  have hv := k2.all_eq 31 rfl
  simp (config := {maxSteps := 1000000}) only [↓zvD, zvU, ↓up_apply, ↓hv_apply, ↓upO_some, ↓upO_none, ↓ev_tmp, ↓ev_const, ↓ev_func, ↓ev_global, init, Nat.reduceEqDiff, Nat.reduceAdd, Nat.reduceMul, Nat.reduceSub, ↓reduceIte, Int.reduceEq, Int.reduceNe, Nat.reduceLeDiff, one, Value.cells, Int.reduceLE, Int.reduceLT, Int.reduceToNat, add_mk, reduceCtorEq, List.mem_range'_1, true_and, and_true, and_false, false_and, Nat.reduceLT, Nat.reduceLeDiff, tyF, hv]
  refine call_ok Try.call37 (stats_encode w4 (z31.set 0 n) rfl) ?_
  rintro _ w5 ⟨A, c, rfl, ho5, hm5⟩
  have el := encM_len (z31.set 0 n)
  simp (config := {maxSteps := 1000000}) only [↓zvD, zvU, ↓up_apply, ↓hv_apply, ↓upO_some, ↓upO_none, ↓ev_tmp, ↓ev_const, ↓ev_func, ↓ev_global, init, Nat.reduceEqDiff, Nat.reduceAdd, Nat.reduceMul, Nat.reduceSub, ↓reduceIte, Int.reduceEq, Int.reduceNe, Nat.reduceLeDiff, one, Value.cells, Int.reduceLE, Int.reduceLT, Int.reduceToNat, add_mk, reduceCtorEq, List.mem_range'_1, true_and, and_true, and_false, false_and, Nat.reduceLT, Nat.reduceLeDiff, tyF]
  refine call_ok Try.call35 (stats_decode w5 A _ c ho5.cs (by rw [el]; simp [z31])) ?_
  rintro _ w6 ⟨rfl, hm6⟩
  rw [decM_encM rfl]
  have e3 : (z31.set 0 n).map countM = countM n :: List.replicate 30 0 := rfl
  rw [e3]
  simp (config := {maxSteps := 1000000}) only [↓zvD, zvU, ↓up_apply, ↓hv_apply, ↓upO_some, ↓upO_none, ↓ev_tmp, ↓ev_const, ↓ev_func, ↓ev_global, init, Nat.reduceEqDiff, Nat.reduceAdd, Nat.reduceMul, Nat.reduceSub, ↓reduceIte, Int.reduceEq, Int.reduceNe, Nat.reduceLeDiff, one, Value.cells, Int.reduceLE, Int.reduceLT, Int.reduceToNat, add_mk, reduceCtorEq, List.mem_range'_1, true_and, and_true, and_false, false_and, Nat.reduceLT, Nat.reduceLeDiff, tyF, zerStats]
  have hm7 := more_alloc w6 (.cells (ints z31).toArray 65)
  have hb7 := Blk.new w6 65 (ints z31).toArray
  generalize w6.alloc (.cells (ints z31).toArray 65) = w7 at hm7 hb7 ⊢
  rw [List.toList_toArray] at hb7
  refine st_all hb7 rfl rfl (by intro u hu; exact ints_one _ u (by simpa using hu)) fun w8 k3 k4 => ?_
  rw [List.toList_toArray] at k4
  have hm8 := k3.below (((More.trans hm4 hm5).trans hm6).trans hm7) (by have := (More.trans hm4 hm5).size; have := hm6.size; omega)
  have c0 : w8.cell? ⟨w6.heap.size, 0, none⟩ = some (.int .i64 (countM n)) := by rw [k4.cell]; rfl
  refine draw_seen 11 [[], [0], [0, 1], [0, 1, 2], [0, 1, 2, 3], [0, 1, 2, 3, 4], [0, 1, 2, 3, 4, 5], [0, 1, 2, 3, 4, 5, 6], [0, 1, 2, 3, 4, 5, 6, 7], [0, 1, 2, 3, 4, 5], [0, 1, 2, 3, 4, 5, 9], [0, 1, 2, 3, 4, 5, 6, 7, 8, 9, 10], [0, 1, 2, 3, 4, 5, 6, 7, 8, 9, 10, 11], [0, 1, 2, 3, 4, 5, 6, 7, 8, 9, 10, 11, 12]] (RV.look [(0, RV.IsV (.bool true)), (10, RV.IsV (.int .i64 (countM n)))]) mixed (by kernel_rfl) (by kernel_rfl) (look_keeps _ (by simp [keepsV])) ?_
  simp (config := {maxSteps := 1000000}) only [↓zvD, zvU, ↓zqD, ↓up_apply, ↓hv_apply, ↓upO_some, ↓upO_none, ↓ev_tmp, ↓ev_const, ↓ev_func, ↓ev_global, init, Nat.reduceEqDiff, Nat.reduceAdd, Nat.reduceMul, Nat.reduceSub, ↓reduceIte, Int.reduceEq, Int.reduceNe, Nat.reduceLeDiff, one, Value.cells, Int.reduceLE, Int.reduceLT, Int.reduceToNat, add_mk, reduceCtorEq, List.mem_range'_1, true_and, and_true, and_false, false_and, Nat.reduceLT, Nat.reduceLeDiff, tyF, c0]
  refine ⟨fun w9 hm9 => call_ok Try.call33 (law29_awake w9) ?_, ?_⟩
  · rintro _ w10 ⟨rfl, hm10⟩
    simp (config := {maxSteps := 1000000}) only [↓zvD, zvU, ↓zqD, ↓up_apply, ↓hv_apply, ↓upO_some, ↓upO_none, ↓ev_tmp, ↓ev_const, ↓ev_func, ↓ev_global, init, Nat.reduceEqDiff, Nat.reduceAdd, Nat.reduceMul, Nat.reduceSub, ↓reduceIte, Int.reduceEq, Int.reduceNe, Nat.reduceLeDiff, one, Value.cells, Int.reduceLE, Int.reduceLT, Int.reduceToNat, add_mk, reduceCtorEq, List.mem_range'_1, true_and, and_true, and_false, false_and, Nat.reduceLT, Nat.reduceLeDiff]
    exact ⟨hm10, rfl⟩
  rintro _ ⟨w9, hm9, rfl⟩
  simp (config := {maxSteps := 1000000}) only [↓zvD, zvU, ↓zqD, ↓up_apply, ↓hv_apply, ↓upO_some, ↓upO_none, ↓ev_tmp, ↓ev_const, ↓ev_func, ↓ev_global, init, Nat.reduceEqDiff, Nat.reduceAdd, Nat.reduceMul, Nat.reduceSub, ↓reduceIte, Int.reduceEq, Int.reduceNe, Nat.reduceLeDiff, one, Value.cells, Int.reduceLE, Int.reduceLT, Int.reduceToNat, add_mk, reduceCtorEq, List.mem_range'_1, true_and, and_true, and_false, false_and, Nat.reduceLT, Nat.reduceLeDiff, tyF, c0]
  refine ⟨fun w10 hm10 _ => call_ok Try.call42 (ref_count w10 n) ?_, ?_⟩
  · rintro _ w11 ⟨rfl, rfl⟩
    simp (config := {maxSteps := 1000000}) only [↓zvD, zvU, ↓zqD, ↓up_apply, ↓hv_apply, ↓upO_some, ↓upO_none, ↓ev_tmp, ↓ev_const, ↓ev_func, ↓ev_global, init, Nat.reduceEqDiff, Nat.reduceAdd, Nat.reduceMul, Nat.reduceSub, ↓reduceIte, Int.reduceEq, Int.reduceNe, Nat.reduceLeDiff, one, Value.cells, Int.reduceLE, Int.reduceLT, Int.reduceToNat, add_mk, reduceCtorEq, List.mem_range'_1, true_and, and_true, and_false, false_and, Nat.reduceLT, Nat.reduceLeDiff]
    exact ⟨More.refl _, rfl⟩
  rintro _ ⟨w10, hm10, _, rfl⟩
  simp (config := {maxSteps := 1000000}) only [↓zvD, zvU, ↓zqD, ↓up_apply, ↓hv_apply, ↓upO_some, ↓upO_none, ↓ev_tmp, ↓ev_const, ↓ev_func, ↓ev_global, init, Nat.reduceEqDiff, Nat.reduceAdd, Nat.reduceMul, Nat.reduceSub, ↓reduceIte, Int.reduceEq, Int.reduceNe, Nat.reduceLeDiff, one, Value.cells, Int.reduceLE, Int.reduceLT, Int.reduceToNat, add_mk, reduceCtorEq, List.mem_range'_1, true_and, and_true, and_false, false_and, Nat.reduceLT, Nat.reduceLeDiff, tyF, c0]
  intro w11 hm11 _
  exact More.trans hm8 hm11
def ReadJ (w w4 : World) (l : List UInt8) (v5 v6 : Value) (w' : World) : Prop :=
  ∃ (k : Nat) (ok : Bool), v6 = .int .i64 ((8 * k : Nat) : Int) ∧ k ≤ 31 ∧ v5 = .bool ok ∧ (ok = true → l.length = 248 ∧ ∀ i, i < k → numAt l i ≤ 4611686018427387904) ∧ (ok = false → ¬ okStats l) ∧ More w4 w'
theorem stats_read (w : World) (A : Option Addr) (l : List UInt8) (c : Nat) (hA : Bs w A l) (hc : l.length ≤ c) :
    Ret Try.prog 14 #[.slice A l.length c] w fun v w' => v = .bool true ∧ More w w' := by
  refine ret_of Try.func14 rfl (by kernel_rfl) (Nat.le_of_ble_eq_true (by kernel_rfl)) ?_
  simp (config := {maxSteps := 1000000}) only [↓zvD, zvU, ↓up_apply, ↓hv_apply, ↓upO_some, ↓upO_none, ↓ev_tmp, ↓ev_const, ↓ev_func, ↓ev_global, init, Nat.reduceEqDiff, Nat.reduceAdd, Nat.reduceMul, Nat.reduceSub, ↓reduceIte, Int.reduceEq, Int.reduceNe, Nat.reduceLeDiff, one, Value.cells, Int.reduceLE, Int.reduceLT, Int.reduceToNat, add_mk, reduceCtorEq, List.mem_range'_1, true_and, and_true, and_false, false_and, Nat.reduceLT, Nat.reduceLeDiff, tyF]
  refine call_ok Try.call33 (law29_awake w) ?_
  rintro _ w1 ⟨rfl, hm1⟩
  simp (config := {maxSteps := 1000000}) only [↓zvD, zvU, ↓up_apply, ↓hv_apply, ↓upO_some, ↓upO_none, ↓ev_tmp, ↓ev_const, ↓ev_func, ↓ev_global, init, Nat.reduceEqDiff, Nat.reduceAdd, Nat.reduceMul, Nat.reduceSub, ↓reduceIte, Int.reduceEq, Int.reduceNe, Nat.reduceLeDiff, one, Value.cells, Int.reduceLE, Int.reduceLT, Int.reduceToNat, add_mk, reduceCtorEq, List.mem_range'_1, true_and, and_true, and_false, false_and, Nat.reduceLT, Nat.reduceLeDiff, tyF]
  refine ⟨fun h60 => ?_, fun h60 => ?_⟩
  · refine call_ok Try.call33 (law29_awake w1) ?_
    rintro _ w2 ⟨rfl, hm2⟩
    simp (config := {maxSteps := 1000000}) only [↓zvD, zvU, ↓up_apply, ↓hv_apply, ↓upO_some, ↓upO_none, ↓ev_tmp, ↓ev_const, ↓ev_func, ↓ev_global, init, Nat.reduceEqDiff, Nat.reduceAdd, Nat.reduceMul, Nat.reduceSub, ↓reduceIte, Int.reduceEq, Int.reduceNe, Nat.reduceLeDiff, one, Value.cells, Int.reduceLE, Int.reduceLT, Int.reduceToNat, add_mk, reduceCtorEq, List.mem_range'_1, true_and, and_true, and_false, false_and, Nat.reduceLT, Nat.reduceLeDiff, tyF]
    exact hm1.trans hm2
  refine call_ok Try.call35 (stats_decode w1 A l c (hA.more hm1) (by omega)) ?_
  rintro _ w2 ⟨rfl, hm2⟩
  have ld : (decM l).1.length = 31 := by unfold decM; split <;> simp [nums]
  have eo : okStats l → decM l = (nums l, 0) := fun h => by unfold decM; rw [if_pos h]
  have en : ¬ okStats l → decM l = (z31, 2) := fun h => by unfold decM; rw [if_neg h]; rfl
  generalize decM l = D at ld eo en ⊢
  obtain ⟨ds, de⟩ := D
  simp only at ld
  simp (config := {maxSteps := 1000000}) only [↓zvD, zvU, ↓up_apply, ↓hv_apply, ↓upO_some, ↓upO_none, ↓ev_tmp, ↓ev_const, ↓ev_func, ↓ev_global, init, Nat.reduceEqDiff, Nat.reduceAdd, Nat.reduceMul, Nat.reduceSub, ↓reduceIte, Int.reduceEq, Int.reduceNe, Nat.reduceLeDiff, one, Value.cells, Int.reduceLE, Int.reduceLT, Int.reduceToNat, add_mk, reduceCtorEq, List.mem_range'_1, true_and, and_true, and_false, false_and, Nat.reduceLT, Nat.reduceLeDiff, tyF, zerStats]
  have hm3 := more_alloc w2 (.cells (ints z31).toArray 65)
  have hb3 := Blk.new w2 65 (ints z31).toArray
  generalize w2.alloc (.cells (ints z31).toArray 65) = w3 at hm3 hb3 ⊢
  rw [List.toList_toArray] at hb3
  refine st_all hb3 (by rw [List.size_toArray, ints_len, ld]) rfl (by intro u hu; exact ints_one _ u (by simpa using hu)) fun w4 k1 k2 => ?_
  rw [List.toList_toArray] at k2
  have hm12 := hm1.trans hm2
  have hm4 : More w w4 := k1.below (hm12.trans hm3) hm12.size
  refine loop_p [5, 6, 7, 8, 25, 26, 27, 28, 29, 30, 31, 32, 33, 34, 35, 36, 37, 38, 39, 40, 41] (fun e w' => ReadJ w w4 l (e 5) (e 6) w') (fun e _ => 31 - (numOf (e 6) / 8).toNat) ?_ ?_
  · refine ⟨0, decide (l.length = 248), by simp only [hv_apply, up_apply, upO_some, upO_none, init, List.mem_cons, List.mem_range'_1, true_and, and_true, and_false, false_and, Nat.reduceLT, Nat.reduceLeDiff, Nat.reduceAdd, true_or, or_true, if_true, if_false, ↓reduceIte, Nat.reduceEqDiff, false_or, or_false, List.not_mem_nil, List.getElem?_cons_zero, List.getElem?_cons_succ, Option.getD_some] <;> rfl, by omega, ?_, ?_, ?_, More.refl _⟩
    · simp only [hv_apply, up_apply, upO_some, upO_none, init, List.mem_cons, List.mem_range'_1, true_and, and_true, and_false, false_and, Nat.reduceLT, Nat.reduceLeDiff, Nat.reduceAdd, true_or, or_true, if_true, if_false, ↓reduceIte, Nat.reduceEqDiff, false_or, or_false, List.not_mem_nil, List.getElem?_cons_zero, List.getElem?_cons_succ, Option.getD_some]
      congr 1
      exact decide_eq_decide.2 (by omega)
    · intro h
      exact ⟨of_decide_eq_true h, fun i hi => by omega⟩
    · intro h ho
      exact of_decide_eq_false h ho.1
  rintro v w5 ⟨k, ok, h6, hk, h5, hok, hno, hm5⟩
  simp only [hv_apply, up_apply, upO_some, upO_none, init, List.mem_cons, List.mem_range'_1, true_and, and_true, and_false, false_and, Nat.reduceLT, Nat.reduceLeDiff, Nat.reduceAdd, true_or, or_true, if_true, if_false, ↓reduceIte, Nat.reduceEqDiff, false_or, or_false, List.not_mem_nil, List.getElem?_cons_zero, List.getElem?_cons_succ, Option.getD_some] at h6 h5
  have hm5' : More w w5 := hm4.trans hm5
  cases ok with
  | false =>
    have hno := hno rfl
    have hde := en hno
    cases hde
    have hb5 := k2.more hm5
    have hv := hb5.all_eq 31 rfl
    have hs := stat_eq (a := z31) (b := z31) rfl rfl w
    simp (config := {maxSteps := 1000000}) only [↓zvD, zvU, ↓up_apply, ↓hv_apply, ↓upO_some, ↓upO_none, ↓ev_tmp, ↓ev_const, ↓ev_func, ↓ev_global, init, Nat.reduceEqDiff, Nat.reduceAdd, Nat.reduceMul, Nat.reduceSub, ↓reduceIte, Int.reduceEq, Int.reduceNe, Nat.reduceLeDiff, one, Value.cells, Int.reduceLE, Int.reduceLT, Int.reduceToNat, add_mk, reduceCtorEq, List.mem_range'_1, true_and, and_true, and_false, false_and, Nat.reduceLT, Nat.reduceLeDiff, tyF, h6, h5, hv]
    rw [stat_build0 w]
    simp (config := {maxSteps := 1000000}) only [↓zvD, zvU, ↓up_apply, ↓hv_apply, ↓upO_some, ↓upO_none, ↓ev_tmp, ↓ev_const, ↓ev_func, ↓ev_global, init, Nat.reduceEqDiff, Nat.reduceAdd, Nat.reduceMul, Nat.reduceSub, ↓reduceIte, Int.reduceEq, Int.reduceNe, Nat.reduceLeDiff, one, Value.cells, Int.reduceLE, Int.reduceLT, Int.reduceToNat, add_mk, reduceCtorEq, List.mem_range'_1, true_and, and_true, and_false, false_and, Nat.reduceLT, Nat.reduceLeDiff, tyF, h6, h5, hv, hs]
    exact hm5'
  | true =>
    obtain ⟨h248, hall⟩ := hok rfl
    simp (config := {maxSteps := 1000000}) only [↓zvD, zvU, ↓up_apply, ↓hv_apply, ↓upO_some, ↓upO_none, ↓ev_tmp, ↓ev_const, ↓ev_func, ↓ev_global, init, Nat.reduceEqDiff, Nat.reduceAdd, Nat.reduceMul, Nat.reduceSub, ↓reduceIte, Int.reduceEq, Int.reduceNe, Nat.reduceLeDiff, one, Value.cells, Int.reduceLE, Int.reduceLT, Int.reduceToNat, add_mk, reduceCtorEq, List.mem_range'_1, true_and, and_true, and_false, false_and, Nat.reduceLT, Nat.reduceLeDiff, tyF, h6, h5]
    refine ⟨fun h9 => ?_, fun h9 => ?_⟩
    · have hk31 : k < 31 := by omega
      have g0 : (0 : Int) ≤ ((8 * k : Nat) : Int) := by omega
      have g1 : 8 * k ≤ l.length := by omega
      simp (config := {maxSteps := 1000000}) only [↓zvD, zvU, ↓up_apply, ↓hv_apply, ↓upO_some, ↓upO_none, ↓ev_tmp, ↓ev_const, ↓ev_func, ↓ev_global, init, Nat.reduceEqDiff, Nat.reduceAdd, Nat.reduceMul, Nat.reduceSub, ↓reduceIte, Int.reduceEq, Int.reduceNe, Nat.reduceLeDiff, one, Value.cells, Int.reduceLE, Int.reduceLT, Int.reduceToNat, add_mk, reduceCtorEq, List.mem_range'_1, true_and, and_true, and_false, false_and, Nat.reduceLT, Nat.reduceLeDiff, tyF, h6, h5, g0, g1, Int.toNat_natCast]
      rw [rin_build _ _ _ w5]
      simp (config := {maxSteps := 1000000}) only [↓zvD, zvU, ↓up_apply, ↓hv_apply, ↓upO_some, ↓upO_none, ↓ev_tmp, ↓ev_const, ↓ev_func, ↓ev_global, init, Nat.reduceEqDiff, Nat.reduceAdd, Nat.reduceMul, Nat.reduceSub, ↓reduceIte, Int.reduceEq, Int.reduceNe, Nat.reduceLeDiff, one, Value.cells, Int.reduceLE, Int.reduceLT, Int.reduceToNat, add_mk, reduceCtorEq, List.mem_range'_1, true_and, and_true, and_false, false_and, Nat.reduceLT, Nat.reduceLeDiff, tyF, h6, h5]
      have hdl : (l.drop (8 * k)).length = l.length - 8 * k := List.length_drop
      have hA5 : Bs w5 (adv A c (8 * k) 1) (l.drop (8 * k)) := Cs.advB (hA.more hm5') hc
      have htk := ref_take_ok w5 (adv A c (8 * k) 1) (l.drop (8 * k)) (c - 8 * k) 8 hA5 (by omega) (by omega) (by omega)
      rw [hdl] at htk
      refine call_ok Try.call36 htk ?_
      rintro _ w6 ⟨rfl, hm6⟩
      simp (config := {maxSteps := 1000000}) only [↓zvD, zvU, ↓up_apply, ↓hv_apply, ↓upO_some, ↓upO_none, ↓ev_tmp, ↓ev_const, ↓ev_func, ↓ev_global, init, Nat.reduceEqDiff, Nat.reduceAdd, Nat.reduceMul, Nat.reduceSub, ↓reduceIte, Int.reduceEq, Int.reduceNe, Nat.reduceLeDiff, one, Value.cells, Int.reduceLE, Int.reduceLT, Int.reduceToNat, add_mk, reduceCtorEq, List.mem_range'_1, true_and, and_true, and_false, false_and, Nat.reduceLT, Nat.reduceLeDiff, tyF, zer73]
      have hm7 := more_alloc w6 (.cells #[.slice none 0 0, .bool false] 73)
      have hb7 := Blk.new w6 73 #[.slice none 0 0, .bool false]
      generalize w6.alloc (.cells #[.slice none 0 0, .bool false] 73) = w7 at hm7 hb7 ⊢
      refine st_all hb7 rfl rfl (by intro u hu; simp at hu; rcases hu with rfl | rfl <;> rfl) fun w8 j1 j2 => ?_
      have hm8 : More w4 w8 := j1.below (More.trans (More.trans hm5 hm6) hm7) (by have := More.trans hm5 hm6; exact this.size)
      have e8 : IntKind.i64.wrap (((8 * k : Nat) : Int) + 8) = ((8 * (k + 1) : Nat) : Int) := by
        rw [show ((8 * k : Nat) : Int) + 8 = ((8 * (k + 1) : Nat) : Int) by omega]
        exact w64 (by omega) (by omega)
      simp (config := {maxSteps := 1000000}) only [↓zvD, zvU, ↓up_apply, ↓hv_apply, ↓upO_some, ↓upO_none, ↓ev_tmp, ↓ev_const, ↓ev_func, ↓ev_global, init, Nat.reduceEqDiff, Nat.reduceAdd, Nat.reduceMul, Nat.reduceSub, ↓reduceIte, Int.reduceEq, Int.reduceNe, Nat.reduceLeDiff, one, Value.cells, Int.reduceLE, Int.reduceLT, Int.reduceToNat, add_mk, reduceCtorEq, List.mem_range'_1, true_and, and_true, and_false, false_and, Nat.reduceLT, Nat.reduceLeDiff, tyF, h6, h5, e8]
      refine ⟨⟨?_, k + 1, decide (numAt l k ≤ 4611686018427387904), rfl, by omega, rfl, ?_, ?_, hm8⟩, by simp only [numOf]; omega⟩
      · repeat (first | exact Same.hv _ _ _ | refine Same.up (by simp) ?_)
      · intro h
        refine ⟨h248, fun i hi => ?_⟩
        rcases Nat.lt_or_ge i k with h1 | h1
        · exact hall i h1
        · obtain rfl : i = k := by omega
          exact of_decide_eq_true h
      · intro h ho
        exact of_decide_eq_false h (ho.2 k hk31)
    · obtain rfl : k = 31 := by omega
      have hyes : okStats l := ⟨h248, hall⟩
      have hde := eo hyes
      cases hde
      have hb5 := k2.more hm5
      have hv := hb5.all_eq 31 (by rw [ints_len, ld])
      simp (config := {maxSteps := 1000000}) only [↓zvD, zvU, ↓up_apply, ↓hv_apply, ↓upO_some, ↓upO_none, ↓ev_tmp, ↓ev_const, ↓ev_func, ↓ev_global, init, Nat.reduceEqDiff, Nat.reduceAdd, Nat.reduceMul, Nat.reduceSub, ↓reduceIte, Int.reduceEq, Int.reduceNe, Nat.reduceLeDiff, one, Value.cells, Int.reduceLE, Int.reduceLT, Int.reduceToNat, add_mk, reduceCtorEq, List.mem_range'_1, true_and, and_true, and_false, false_and, Nat.reduceLT, Nat.reduceLeDiff, tyF, h6, h5, hv]
      have hA5 := hA.more hm5'
      have rs := readstr_eq (B := w5.heap.size) Try.underlying22 Try.underlying5 Try.underlying9 hA5 c (Nat.le_refl _)
      refine draw_seen 8 [[], [0], [0, 1], [0, 1, 2], [0, 1, 2, 3], [0, 1, 2, 3, 4], [0, 1, 2], [0, 1, 2, 6], [0, 1, 2, 3, 4, 5, 6, 7], [0, 1, 2, 3, 4, 5, 6, 7, 8], [0, 1, 2, 3, 4, 5, 6, 7, 8, 9]] (RV.look [(4, RV.BsF l), (5, RV.IsV (.string (bstr l)))]) mixed (by kernel_rfl) (by kernel_rfl) (look_keeps _ (by simp [keepsV, keepsB])) ?_
      simp (config := {maxSteps := 1000000}) only [↓zvD, zvU, ↓zqD, ↓up_apply, ↓hv_apply, ↓upO_some, ↓upO_none, ↓ev_tmp, ↓ev_const, ↓ev_func, ↓ev_global, init, Nat.reduceEqDiff, Nat.reduceAdd, Nat.reduceMul, Nat.reduceSub, ↓reduceIte, Int.reduceEq, Int.reduceNe, Nat.reduceLeDiff, one, Value.cells, Int.reduceLE, Int.reduceLT, Int.reduceToNat, add_mk, reduceCtorEq, List.mem_range'_1, true_and, and_true, and_false, false_and, Nat.reduceLT, Nat.reduceLeDiff, tyF, h6, h5, hv, rs]
      refine ⟨fun w6 hm6 => call_ok Try.call37 (stats_encode w6 (nums l) ld) ?_, ?_⟩
      · rw [encM_decM hyes]
        rintro _ w7 ⟨A7, c7, rfl, ho7, hm7⟩
        simp (config := {maxSteps := 1000000}) only [↓zvD, zvU, ↓zqD, ↓up_apply, ↓hv_apply, ↓upO_some, ↓upO_none, ↓ev_tmp, ↓ev_const, ↓ev_func, ↓ev_global, init, Nat.reduceEqDiff, Nat.reduceAdd, Nat.reduceMul, Nat.reduceSub, ↓reduceIte, Int.reduceEq, Int.reduceNe, Nat.reduceLeDiff, one, Value.cells, Int.reduceLE, Int.reduceLT, Int.reduceToNat, add_mk, reduceCtorEq, List.mem_range'_1, true_and, and_true, and_false, false_and, Nat.reduceLT, Nat.reduceLeDiff]
        exact ⟨hm7, A7, c7, rfl, ho7.cs⟩
      rintro _ ⟨w6, hm6, A6, c6, rfl, hA6⟩
      simp (config := {maxSteps := 1000000}) only [↓zvD, zvU, ↓zqD, ↓up_apply, ↓hv_apply, ↓upO_some, ↓upO_none, ↓ev_tmp, ↓ev_const, ↓ev_func, ↓ev_global, init, Nat.reduceEqDiff, Nat.reduceAdd, Nat.reduceMul, Nat.reduceSub, ↓reduceIte, Int.reduceEq, Int.reduceNe, Nat.reduceLeDiff, one, Value.cells, Int.reduceLE, Int.reduceLT, Int.reduceToNat, add_mk, reduceCtorEq, List.mem_range'_1, true_and, and_true, and_false, false_and, Nat.reduceLT, Nat.reduceLeDiff, tyF, h6, h5, hv, rs]
      refine ⟨fun w7 hm7 hh => ?_, ?_⟩
      · obtain ⟨A7, c7, e7, hA7⟩ := hh
        cases e7
        refine conv_str Try.underlying22 Try.underlying5 Try.underlying9 hA7 ?_
        simp (config := {maxSteps := 1000000}) only [↓zvD, zvU, ↓zqD, ↓up_apply, ↓hv_apply, ↓upO_some, ↓upO_none, ↓ev_tmp, ↓ev_const, ↓ev_func, ↓ev_global, init, Nat.reduceEqDiff, Nat.reduceAdd, Nat.reduceMul, Nat.reduceSub, ↓reduceIte, Int.reduceEq, Int.reduceNe, Nat.reduceLeDiff, one, Value.cells, Int.reduceLE, Int.reduceLT, Int.reduceToNat, add_mk, reduceCtorEq, List.mem_range'_1, true_and, and_true, and_false, false_and, Nat.reduceLT, Nat.reduceLeDiff]
        exact ⟨More.refl _, rfl⟩
      rintro _ ⟨w7, hm7, _, rfl⟩
      simp (config := {maxSteps := 1000000}) only [↓zvD, zvU, ↓zqD, ↓up_apply, ↓hv_apply, ↓upO_some, ↓upO_none, ↓ev_tmp, ↓ev_const, ↓ev_func, ↓ev_global, init, Nat.reduceEqDiff, Nat.reduceAdd, Nat.reduceMul, Nat.reduceSub, ↓reduceIte, Int.reduceEq, Int.reduceNe, Nat.reduceLeDiff, one, Value.cells, Int.reduceLE, Int.reduceLT, Int.reduceToNat, add_mk, reduceCtorEq, List.mem_range'_1, true_and, and_true, and_false, false_and, Nat.reduceLT, Nat.reduceLeDiff, tyF, h6, h5, hv, rs, beq_self_eq_true]
      intro w8 hm8 _
      exact hm5'.trans hm8
end Go.Proofs.Ytgbhgjghlnknjaa
