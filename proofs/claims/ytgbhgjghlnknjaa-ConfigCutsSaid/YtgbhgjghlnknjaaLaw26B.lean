/-
  Layer 26: ConfigTunes, ConfigBytes, ConfigCuts; what came in.
-/
import Derived.Test.YtgbhgjghlnknjaaLaw26
import Derived.Test.YtgbhgjghlnknjaaLaw29R
import Derived.Test.YtgbhgjghlnknjaaLa
namespace Go.Proofs.Ytgbhgjghlnknjaa
open Go Go.RowKit Go.Proofs.RV
set_option linter.unusedSimpArgs false
set_option linter.unusedVariables false
set_option maxRecDepth 10000
set_option maxHeartbeats 4000000

theorem tunedM_self (a : List Int) : tunedM a a ↔ rightM a := ⟨fun h => h.1, fun h => ⟨h, h, fun _ _ _ => rfl⟩⟩
open Classical in
theorem config_tunes (w : World) (a b : List Int) (ha : a.length = 20) (hb : b.length = 20) : Ret Try.prog 9 #[.agg (ints a).toArray, .agg (ints b).toArray] w fun v w' => v = .bool true ∧ More w w' := by
  refine ret_of Try.func9 rfl (by kernel_rfl) (Nat.le_of_ble_eq_true (by kernel_rfl)) ?_
  have hm1 := more_alloc w (.cells (ints a).toArray 46)
  have hb1 := Blk.new w 46 (ints a).toArray
  have s1 := size_alloc w (.cells (ints a).toArray 46)
  simp (config := {maxSteps := 1000000}) only [↓zvD, zvU, ↓up_apply, ↓hv_apply, ↓upO_some, ↓upO_none, ↓ev_tmp, ↓ev_const, ↓ev_func, ↓ev_global, init, Nat.reduceEqDiff, Nat.reduceAdd, Nat.reduceMul, Nat.reduceSub, ↓reduceIte, Int.reduceEq, Int.reduceNe, Nat.reduceLeDiff, one, Value.cells, Int.reduceLE, Int.reduceLT, Int.reduceToNat, add_mk, reduceCtorEq, List.mem_range'_1, true_and, and_true, and_false, false_and, Nat.reduceLT, Nat.reduceLeDiff, tyF]
  have hsz := s1
  generalize w.alloc (.cells (ints a).toArray 46) = w1 at hm1 hb1 s1 ⊢
  have hm2 := more_alloc w1 (.cells (ints b).toArray 46)
  have hb2 := Blk.new w1 46 (ints b).toArray
  have s2 := size_alloc w1 (.cells (ints b).toArray 46)
  generalize w1.alloc (.cells (ints b).toArray 46) = w2 at hm2 hb2 s2 ⊢
  rw [List.toList_toArray] at hb1 hb2
  have hm := hm1.trans hm2
  have hb12 := hb1.more hm2
  generalize hpp : w.heap.size = p at hb12 s1
  generalize hqq : w1.heap.size = q at hb2 s1 s2
  rw [hpp, ← s1] at hsz
  try rw [hpp]
  try rw [hqq]
  refine call_ok Try.call24 (law26_awake w2) ?_
  rintro _ w3 ⟨rfl, hm3⟩
  have v1 := (hb12.more hm3).all_eq 20 (by rw [ints_len, ha])
  have v2 := (hb2.more hm3).all_eq 20 (by rw [ints_len, hb])
  simp (config := {maxSteps := 1000000}) only [↓zvD, zvU, ↓up_apply, ↓hv_apply, ↓upO_some, ↓upO_none, ↓ev_tmp, ↓ev_const, ↓ev_func, ↓ev_global, init, Nat.reduceEqDiff, Nat.reduceAdd, Nat.reduceMul, Nat.reduceSub, ↓reduceIte, Int.reduceEq, Int.reduceNe, Nat.reduceLeDiff, one, Value.cells, Int.reduceLE, Int.reduceLT, Int.reduceToNat, add_mk, reduceCtorEq, List.mem_range'_1, true_and, and_true, and_false, false_and, Nat.reduceLT, Nat.reduceLeDiff, tyF, hsz, v1, v2]
  refine call_ok Try.call25 (config_tuned w3 a b ha hb) ?_
  rintro _ w4 ⟨rfl, hm4⟩
  have v1 := ((hb12.more hm3).more hm4).all_eq 20 (by rw [ints_len, ha])
  have v2 := ((hb2.more hm3).more hm4).all_eq 20 (by rw [ints_len, hb])
  have e1 : decide (tunedM b a) = decide (tunedM a b) := decide_eq_decide.2 ⟨tunedM_symm, tunedM_symm⟩
  have e2 : decide (tunedM a a) = decide (rightM a) := decide_eq_decide.2 (tunedM_self a)
  generalize hT : decide (tunedM a b) = T at e1
  generalize hR : decide (rightM a) = R at e2
  simp (config := {maxSteps := 1000000}) only [↓zvD, zvU, ↓up_apply, ↓hv_apply, ↓upO_some, ↓upO_none, ↓ev_tmp, ↓ev_const, ↓ev_func, ↓ev_global, init, Nat.reduceEqDiff, Nat.reduceAdd, Nat.reduceMul, Nat.reduceSub, ↓reduceIte, Int.reduceEq, Int.reduceNe, Nat.reduceLeDiff, one, Value.cells, Int.reduceLE, Int.reduceLT, Int.reduceToNat, add_mk, reduceCtorEq, List.mem_range'_1, true_and, and_true, and_false, false_and, Nat.reduceLT, Nat.reduceLeDiff, tyF]
  refine draw_name fun K hK => ?_
  refine draw_seen 17 [[], [], [], [1, 2], [0, 1, 2, 3], [0, 1, 2, 3, 4], [0, 1, 2, 3, 4, 5], [0, 1, 2, 3, 4, 5], [0, 1, 2, 3, 4, 5], [0, 1, 2, 3, 4, 5, 7, 8], [0, 1, 2, 3, 4, 5, 6, 7, 8, 9], [0, 1, 2, 3, 4, 5, 6, 7, 8, 9, 10], [0, 1, 2, 3, 4, 5, 6, 7, 8, 9, 10, 11], [0, 1, 2, 3, 4, 5, 6, 7, 8, 9, 10, 11, 12], [0, 1, 2, 3, 4, 5, 6, 7, 8, 9, 10, 11, 12], [0, 1, 2, 3, 4, 5, 6, 7, 8, 9, 10, 11, 12, 13, 14], [0, 1, 2, 3, 4, 5, 6, 7, 8, 9, 10, 11, 12], [0, 1, 2, 3, 4, 5, 6, 7, 8, 9, 10, 11, 12, 13, 14, 15, 16], [0, 1, 2, 3, 4, 5, 6, 7, 8, 9, 10, 11, 12, 13, 14, 15, 16, 17], [0, 1, 2, 3, 4, 5, 6, 7, 8, 9, 10, 11, 12, 13, 14, 15, 16, 17, 18], [0, 1, 2, 3, 4, 5, 6, 7, 8, 9, 10, 11, 12, 13, 14, 15, 16, 17, 18, 19]] (RV.look [(3, RV.IsV (.bool T)), (9, RV.IsV (.bool T)), (15, RV.IsV (.bool R))]) mixed (by kernel_rfl) (by kernel_rfl) (look_keeps _ (by simp [keepsV])) ?_
  simp (config := {maxSteps := 1000000}) only [↓zvD, zvU, ↓zqD, ↓up_apply, ↓hv_apply, ↓upO_some, ↓upO_none, ↓ev_tmp, ↓ev_const, ↓ev_func, ↓ev_global, init, Nat.reduceEqDiff, Nat.reduceAdd, Nat.reduceMul, Nat.reduceSub, ↓reduceIte, Int.reduceEq, Int.reduceNe, Nat.reduceLeDiff, one, Value.cells, Int.reduceLE, Int.reduceLT, Int.reduceToNat, add_mk, reduceCtorEq, List.mem_range'_1, true_and, and_true, and_false, false_and, Nat.reduceLT, Nat.reduceLeDiff, tyF, hsz, v1, v2]
  refine ⟨fun w5 hm5 => call_ok Try.call26 (ref_tuned26 w5 a b ha hb) ?_, ?_⟩
  · rintro _ w6 ⟨rfl, hm6⟩
    simp (config := {maxSteps := 1000000}) only [↓zvD, zvU, ↓zqD, ↓up_apply, ↓hv_apply, ↓upO_some, ↓upO_none, ↓ev_tmp, ↓ev_const, ↓ev_func, ↓ev_global, init, Nat.reduceEqDiff, Nat.reduceAdd, Nat.reduceMul, Nat.reduceSub, ↓reduceIte, Int.reduceEq, Int.reduceNe, Nat.reduceLeDiff, one, Value.cells, Int.reduceLE, Int.reduceLT, Int.reduceToNat, add_mk, reduceCtorEq, List.mem_range'_1, true_and, and_true, and_false, false_and, Nat.reduceLT, Nat.reduceLeDiff]
    exact ⟨hm6, by rw [← hT]; rfl⟩
  rintro _ ⟨w5, hm5, rfl⟩
  simp (config := {maxSteps := 1000000}) only [↓zvD, zvU, ↓zqD, ↓up_apply, ↓hv_apply, ↓upO_some, ↓upO_none, ↓ev_tmp, ↓ev_const, ↓ev_func, ↓ev_global, init, Nat.reduceEqDiff, Nat.reduceAdd, Nat.reduceMul, Nat.reduceSub, ↓reduceIte, Int.reduceEq, Int.reduceNe, Nat.reduceLeDiff, one, Value.cells, Int.reduceLE, Int.reduceLT, Int.reduceToNat, add_mk, reduceCtorEq, List.mem_range'_1, true_and, and_true, and_false, false_and, Nat.reduceLT, Nat.reduceLeDiff, tyF, hsz, v1, v2, beq_self_eq_true]
  refine ⟨fun w5 hm5 _ => call_ok Try.call25 (config_tuned w5 b a hb ha) ?_, ?_⟩
  · rintro _ w6 ⟨rfl, hm6⟩
    simp (config := {maxSteps := 1000000}) only [↓zvD, zvU, ↓zqD, ↓up_apply, ↓hv_apply, ↓upO_some, ↓upO_none, ↓ev_tmp, ↓ev_const, ↓ev_func, ↓ev_global, init, Nat.reduceEqDiff, Nat.reduceAdd, Nat.reduceMul, Nat.reduceSub, ↓reduceIte, Int.reduceEq, Int.reduceNe, Nat.reduceLeDiff, one, Value.cells, Int.reduceLE, Int.reduceLT, Int.reduceToNat, add_mk, reduceCtorEq, List.mem_range'_1, true_and, and_true, and_false, false_and, Nat.reduceLT, Nat.reduceLeDiff]
    exact ⟨hm6, by rw [e1]; rfl⟩
  rintro _ ⟨w5, hm5, _, rfl⟩
  simp (config := {maxSteps := 1000000}) only [↓zvD, zvU, ↓zqD, ↓up_apply, ↓hv_apply, ↓upO_some, ↓upO_none, ↓ev_tmp, ↓ev_const, ↓ev_func, ↓ev_global, init, Nat.reduceEqDiff, Nat.reduceAdd, Nat.reduceMul, Nat.reduceSub, ↓reduceIte, Int.reduceEq, Int.reduceNe, Nat.reduceLeDiff, one, Value.cells, Int.reduceLE, Int.reduceLT, Int.reduceToNat, add_mk, reduceCtorEq, List.mem_range'_1, true_and, and_true, and_false, false_and, Nat.reduceLT, Nat.reduceLeDiff, tyF, hsz, v1, v2, beq_self_eq_true]
  refine ⟨fun w5 hm5 _ => call_ok Try.call25 (config_tuned w5 a a ha ha) ?_, ?_⟩
  · rintro _ w6 ⟨rfl, hm6⟩
    simp (config := {maxSteps := 1000000}) only [↓zvD, zvU, ↓zqD, ↓up_apply, ↓hv_apply, ↓upO_some, ↓upO_none, ↓ev_tmp, ↓ev_const, ↓ev_func, ↓ev_global, init, Nat.reduceEqDiff, Nat.reduceAdd, Nat.reduceMul, Nat.reduceSub, ↓reduceIte, Int.reduceEq, Int.reduceNe, Nat.reduceLeDiff, one, Value.cells, Int.reduceLE, Int.reduceLT, Int.reduceToNat, add_mk, reduceCtorEq, List.mem_range'_1, true_and, and_true, and_false, false_and, Nat.reduceLT, Nat.reduceLeDiff]
    exact ⟨hm6, by rw [e2]; rfl⟩
  rintro _ ⟨w5, hm5, _, rfl⟩
  simp (config := {maxSteps := 1000000}) only [↓zvD, zvU, ↓zqD, ↓up_apply, ↓hv_apply, ↓upO_some, ↓upO_none, ↓ev_tmp, ↓ev_const, ↓ev_func, ↓ev_global, init, Nat.reduceEqDiff, Nat.reduceAdd, Nat.reduceMul, Nat.reduceSub, ↓reduceIte, Int.reduceEq, Int.reduceNe, Nat.reduceLeDiff, one, Value.cells, Int.reduceLE, Int.reduceLT, Int.reduceToNat, add_mk, reduceCtorEq, List.mem_range'_1, true_and, and_true, and_false, false_and, Nat.reduceLT, Nat.reduceLeDiff, tyF, hsz, v1, v2, beq_self_eq_true]
  intro w5 hm5 _
  refine call_ok Try.call27 (config_right w5 a ha) ?_
  rintro _ w6 ⟨rfl, hm6⟩
  rw [hR]
  simp (config := {maxSteps := 1000000}) only [↓zvD, zvU, ↓up_apply, ↓hv_apply, ↓upO_some, ↓upO_none, ↓ev_tmp, ↓ev_const, ↓ev_func, ↓ev_global, init, Nat.reduceEqDiff, Nat.reduceAdd, Nat.reduceMul, Nat.reduceSub, ↓reduceIte, Int.reduceEq, Int.reduceNe, Nat.reduceLeDiff, one, Value.cells, Int.reduceLE, Int.reduceLT, Int.reduceToNat, add_mk, reduceCtorEq, List.mem_range'_1, true_and, and_true, and_false, false_and, Nat.reduceLT, Nat.reduceLeDiff, tyF, p_nil, beq_self_eq_true]
  refine hK _ _ ?_
  simp (config := {maxSteps := 1000000}) only [↓zvD, zvU, ↓up_apply, ↓hv_apply, ↓upO_some, ↓upO_none, ↓ev_tmp, ↓ev_const, ↓ev_func, ↓ev_global, init, Nat.reduceEqDiff, Nat.reduceAdd, Nat.reduceMul, Nat.reduceSub, ↓reduceIte, Int.reduceEq, Int.reduceNe, Nat.reduceLeDiff, one, Value.cells, Int.reduceLE, Int.reduceLT, Int.reduceToNat, add_mk, reduceCtorEq, List.mem_range'_1, true_and, and_true, and_false, false_and, Nat.reduceLT, Nat.reduceLeDiff, tyF, p_nil, beq_self_eq_true]
  exact (((hm.trans hm3).trans hm4).trans hm5).trans hm6
/-! ### Plain laws -/
def inI (x : Int) : Prop := -9223372036854775808 ≤ x ∧ x ≤ 9223372036854775807
theorem wrap_back {x : Int} (h : inI x) : IntKind.i64.wrap (IntKind.u64.wrap x) = x := by
  unfold inI at h
  simp [IntKind.wrap, IntKind.signed, IntKind.bits]
  omega
theorem encC_at : ∀ (s : List Int) (k : Nat), k < s.length → numAt (encC s) k = IntKind.u64.wrap (s.getD k 0)
  | [], k, h => by simp at h
  | n :: r, 0, h => by
    have h0 := wrapu_nonneg n
    unfold numAt encC
    rw [Nat.mul_zero, List.drop_zero, List.take_append_of_le_length (by rw [numB_len]; omega), List.take_of_length_le (by rw [numB_len]; omega), be_numB h0]
    show IntKind.u64.wrap n % 18446744073709551616 = IntKind.u64.wrap n
    simp [IntKind.wrap, IntKind.signed, IntKind.bits]
  | n :: r, k + 1, h => by
    rw [numAt_cons, encC]
    have : (numB (IntKind.u64.wrap n) 8 ++ encC r).drop 8 = encC r := by
      have h8 := numB_len (IntKind.u64.wrap n) 8
      rw [List.drop_append_of_le_length (by omega), List.drop_of_length_le (by omega)]
      rfl
    rw [this]
    exact encC_at r k (by simpa using h)
theorem numsC_encC {c : List Int} (hc : c.length = 20) (hr : ∀ x ∈ c, inI x) : numsC (encC c) = c := by
  apply List.ext_getElem
  · rw [numsC_len, hc]
  · intro i h1 h2
    simp only [numsC, List.getElem_map, List.getElem_range]
    rw [encC_at c i h2]
    have e : c.getD i 0 = c[i] := by simp [h2]
    rw [e]
    exact wrap_back (hr _ (List.getElem_mem _))
theorem decC_encC {c : List Int} (hc : c.length = 20) (hr : ∀ x ∈ c, inI x) : (rightM c → decC (encC c) = (c, 0)) ∧ (¬ rightM c → decC (encC c) = (z20, 5)) := by
  have hl : (encC c).length = 160 := by rw [encC_len, hc]
  unfold decC
  rw [if_pos hl, numsC_encC hc hr]
  exact ⟨fun h => by rw [if_pos h], fun h => by rw [if_neg h]⟩
theorem cfg_in {w : World} {k : Nat} {x : Array Value} (h : Lays Try.prog w k 46 x.toList) : ∃ c : List Int, x = (ints c).toArray ∧ c.length = 20 ∧ ∀ y ∈ c, inI y := by
  have hl := (h.field Try.underlying46).1
  rw [cells46] at hl
  have hf : ∀ i, i < 20 → ∃ y, (x.toList.drop i).take 1 = [.int .i64 y] ∧ IntKind.i64.min ≤ y ∧ y ≤ IntKind.i64.max := by
    intro i hi
    match i, hi with
    | 0, _ => obtain ⟨_, f⟩ := h.fieldAt Try.underlying46 0 3 0 rfl cells3; exact f.int Try.underlying3
    | 1, _ => obtain ⟨_, f⟩ := h.fieldAt Try.underlying46 1 3 1 rfl cells3; exact f.int Try.underlying3
    | 2, _ => obtain ⟨_, f⟩ := h.fieldAt Try.underlying46 2 3 2 rfl cells3; exact f.int Try.underlying3
    | 3, _ => obtain ⟨_, f⟩ := h.fieldAt Try.underlying46 3 3 3 rfl cells3; exact f.int Try.underlying3
    | 4, _ => obtain ⟨_, f⟩ := h.fieldAt Try.underlying46 4 3 4 rfl cells3; exact f.int Try.underlying3
    | 5, _ => obtain ⟨_, f⟩ := h.fieldAt Try.underlying46 5 3 5 rfl cells3; exact f.int Try.underlying3
    | 6, _ => obtain ⟨_, f⟩ := h.fieldAt Try.underlying46 6 3 6 rfl cells3; exact f.int Try.underlying3
    | 7, _ => obtain ⟨_, f⟩ := h.fieldAt Try.underlying46 7 3 7 rfl cells3; exact f.int Try.underlying3
    | 8, _ => obtain ⟨_, f⟩ := h.fieldAt Try.underlying46 8 2 8 rfl cells2; exact f.int Try.underlying2
    | 9, _ => obtain ⟨_, f⟩ := h.fieldAt Try.underlying46 9 2 9 rfl cells2; exact f.int Try.underlying2
    | 10, _ => obtain ⟨_, f⟩ := h.fieldAt Try.underlying46 10 2 10 rfl cells2; exact f.int Try.underlying2
    | 11, _ => obtain ⟨_, f⟩ := h.fieldAt Try.underlying46 11 2 11 rfl cells2; exact f.int Try.underlying2
    | 12, _ => obtain ⟨_, f⟩ := h.fieldAt Try.underlying46 12 2 12 rfl cells2; exact f.int Try.underlying2
    | 13, _ => obtain ⟨_, f⟩ := h.fieldAt Try.underlying46 13 2 13 rfl cells2; exact f.int Try.underlying2
    | 14, _ => obtain ⟨_, f⟩ := h.fieldAt Try.underlying46 14 2 14 rfl cells2; exact f.int Try.underlying2
    | 15, _ => obtain ⟨_, f⟩ := h.fieldAt Try.underlying46 15 2 15 rfl cells2; exact f.int Try.underlying2
    | 16, _ => obtain ⟨_, f⟩ := h.fieldAt Try.underlying46 16 2 16 rfl cells2; exact f.int Try.underlying2
    | 17, _ => obtain ⟨_, f⟩ := h.fieldAt Try.underlying46 17 2 17 rfl cells2; exact f.int Try.underlying2
    | 18, _ => obtain ⟨_, f⟩ := h.fieldAt Try.underlying46 18 2 18 rfl cells2; exact f.int Try.underlying2
    | 19, _ => obtain ⟨_, f⟩ := h.fieldAt Try.underlying46 19 2 19 rfl cells2; exact f.int Try.underlying2
    | n + 20, hi => omega
  obtain ⟨l, h1, h2, h3⟩ := ints_of 20 x.toList hl hf
  refine ⟨l, ?_, h1, fun y hy => ?_⟩
  · apply Array.ext'
    rw [h2]
    rfl
  · have := h3 y hy
    simp [IntKind.min, IntKind.max, IntKind.signed, IntKind.bits] at this
    unfold inI; omega
open Classical in
theorem config_cuts (w : World) (c : List Int) (hc : c.length = 20) (x : Int) (hx : 0 ≤ x ∧ x < 256) (A : Option Addr) (l : List UInt8) (cp : Nat) (hA : Bs w A l) (hl : l.length ≤ cp) :
    Ret Try.prog 12 #[.agg (ints c).toArray, .int .u8 x, .slice A l.length cp] w fun v w' => v = .bool true ∧ More w w' := by
  refine ret_of Try.func12 rfl (by kernel_rfl) (Nat.le_of_ble_eq_true (by kernel_rfl)) ?_
  have hm1 := more_alloc w (.cells (ints c).toArray 46)
  have hb1 := Blk.new w 46 (ints c).toArray
  have s1 := size_alloc w (.cells (ints c).toArray 46)
  simp (config := {maxSteps := 1000000}) only [↓zvD, zvU, ↓up_apply, ↓hv_apply, ↓upO_some, ↓upO_none, ↓ev_tmp, ↓ev_const, ↓ev_func, ↓ev_global, init, Nat.reduceEqDiff, Nat.reduceAdd, Nat.reduceMul, Nat.reduceSub, ↓reduceIte, Int.reduceEq, Int.reduceNe, Nat.reduceLeDiff, one, Value.cells, Int.reduceLE, Int.reduceLT, Int.reduceToNat, add_mk, reduceCtorEq, List.mem_range'_1, true_and, and_true, and_false, false_and, Nat.reduceLT, Nat.reduceLeDiff, tyF]
  generalize w.alloc (.cells (ints c).toArray 46) = w1 at hm1 hb1 s1 ⊢
  rw [List.toList_toArray] at hb1
  refine call_ok Try.call24 (law26_awake w1) ?_
  rintro _ w2 ⟨rfl, hm2⟩
  simp (config := {maxSteps := 1000000}) only [↓zvD, zvU, ↓up_apply, ↓hv_apply, ↓upO_some, ↓upO_none, ↓ev_tmp, ↓ev_const, ↓ev_func, ↓ev_global, init, Nat.reduceEqDiff, Nat.reduceAdd, Nat.reduceMul, Nat.reduceSub, ↓reduceIte, Int.reduceEq, Int.reduceNe, Nat.reduceLeDiff, one, Value.cells, Int.reduceLE, Int.reduceLT, Int.reduceToNat, add_mk, reduceCtorEq, List.mem_range'_1, true_and, and_true, and_false, false_and, Nat.reduceLT, Nat.reduceLeDiff, tyF]
  refine ⟨fun h60 => ?_, fun h60 => ?_⟩
  · refine call_ok Try.call24 (law26_awake w2) ?_
    rintro _ w3 ⟨rfl, hm3⟩
    simp (config := {maxSteps := 1000000}) only [↓zvD, zvU, ↓up_apply, ↓hv_apply, ↓upO_some, ↓upO_none, ↓ev_tmp, ↓ev_const, ↓ev_func, ↓ev_global, init, Nat.reduceEqDiff, Nat.reduceAdd, Nat.reduceMul, Nat.reduceSub, ↓reduceIte, Int.reduceEq, Int.reduceNe, Nat.reduceLeDiff, one, Value.cells, Int.reduceLE, Int.reduceLT, Int.reduceToNat, add_mk, reduceCtorEq, List.mem_range'_1, true_and, and_true, and_false, false_and, Nat.reduceLT, Nat.reduceLeDiff, tyF]
    exact (hm1.trans hm2).trans hm3
  have v1 := (hb1.more hm2).all_eq 20 (by rw [ints_len, hc])
  simp (config := {maxSteps := 1000000}) only [↓zvD, zvU, ↓up_apply, ↓hv_apply, ↓upO_some, ↓upO_none, ↓ev_tmp, ↓ev_const, ↓ev_func, ↓ev_global, init, Nat.reduceEqDiff, Nat.reduceAdd, Nat.reduceMul, Nat.reduceSub, ↓reduceIte, Int.reduceEq, Int.reduceNe, Nat.reduceLeDiff, one, Value.cells, Int.reduceLE, Int.reduceLT, Int.reduceToNat, add_mk, reduceCtorEq, List.mem_range'_1, true_and, and_true, and_false, false_and, Nat.reduceLT, Nat.reduceLeDiff, tyF, v1]
  refine call_ok Try.call31 (ref_encode26 w2 c hc) ?_
  rintro _ w3 ⟨A3, c3, rfl, ho3, hm3⟩
  have hm03 := (hm1.trans hm2).trans hm3
  have e1 : IntKind.i64.wrap x = x := w64 (by omega) (by omega)
  obtain ⟨n, hn, hn1⟩ : ∃ n : Nat, x.tmod 160 = n ∧ n < 160 := by
    rw [Int.tmod_eq_emod_of_nonneg hx.1]
    exact ⟨(x % 160).toNat, by omega, by omega⟩
  have el : (encC c).length = 160 := by rw [encC_len, hc]
  have g0 : (0 : Int) ≤ (n : Int) := by omega
  have hle3 := ho3.le
  have hn3 : n ≤ c3 := by omega
  simp (config := {maxSteps := 1000000}) only [↓zvD, zvU, ↓up_apply, ↓hv_apply, ↓upO_some, ↓upO_none, ↓ev_tmp, ↓ev_const, ↓ev_func, ↓ev_global, init, Nat.reduceEqDiff, Nat.reduceAdd, Nat.reduceMul, Nat.reduceSub, ↓reduceIte, Int.reduceEq, Int.reduceNe, Nat.reduceLeDiff, one, Value.cells, Int.reduceLE, Int.reduceLT, Int.reduceToNat, add_mk, reduceCtorEq, List.mem_range'_1, true_and, and_true, and_false, false_and, Nat.reduceLT, Nat.reduceLeDiff, tyF]
  rw [e1, hn, Int.toNat_natCast]
  refine ⟨g0, hn3, ?_⟩
  have hBt : Bs w3 A3 ((encC c).take n) := Cs.takeB ho3.cs n
  have htl : ((encC c).take n).length = n := by rw [List.length_take]; omega
  have hdc := config_decode w3 A3 ((encC c).take n) c3 hBt (by omega)
  rw [htl] at hdc
  refine call_ok Try.call30 hdc ?_
  rintro _ w4 ⟨rfl, hm4⟩
  have hd : decC ((encC c).take n) = (z20, 2) := by unfold decC; rw [if_neg (by omega)]
  rw [hd]
  simp (config := {maxSteps := 1000000}) only [↓zvD, zvU, ↓up_apply, ↓hv_apply, ↓upO_some, ↓upO_none, ↓ev_tmp, ↓ev_const, ↓ev_func, ↓ev_global, init, Nat.reduceEqDiff, Nat.reduceAdd, Nat.reduceMul, Nat.reduceSub, ↓reduceIte, Int.reduceEq, Int.reduceNe, Nat.reduceLeDiff, one, Value.cells, Int.reduceLE, Int.reduceLT, Int.reduceToNat, add_mk, reduceCtorEq, List.mem_range'_1, true_and, and_true, and_false, false_and, Nat.reduceLT, Nat.reduceLeDiff, tyF, zerCfg]
  have hm5 := more_alloc w4 (.cells (ints z20).toArray 46)
  have hb5 := Blk.new w4 46 (ints z20).toArray
  have s5 := size_alloc w4 (.cells (ints z20).toArray 46)
  generalize w4.alloc (.cells (ints z20).toArray 46) = w5 at hm5 hb5 s5 ⊢
  rw [List.toList_toArray] at hb5
  rw [st_same_eq hb5 (by rw [ints_len]; rfl) (ints_one _)]
  have hm35 := hm4.trans hm5
  have hm05 := hm03.trans hm35
  have hs3 := hm3.size
  have hs35 := hm35.size
  have hs03 := hm03.size
  refine app_mod (m := l.length) Try.underlying22 byteE rfl (by omega) (ho3.more hm35) (hA.more hm05) (by simp) (byteV_one l) (by simp only [maxLen]; omega) (by omega) (by omega) ?_
  intro A6 c6 w6 ho6 hm6 hat6
  have hM6 : More w w6 := hm6.more hm05 (fun k hk hat => by have := ho3.atB_ge hat; have := (hm1.trans hm2).size; omega)
  have hb6 := hm6.blk hb5 (fun hat => by have := ho3.atB_ge hat; have := hm4.size; omega)
  rw [← List.map_append] at ho6
  have hdc2 := config_decode w6 A6 (encC c ++ l) c6 ho6.cs (by rw [List.length_append]; omega)
  rw [List.length_append, el] at hdc2
  simp (config := {maxSteps := 1000000}) only [↓zvD, zvU, ↓up_apply, ↓hv_apply, ↓upO_some, ↓upO_none, ↓ev_tmp, ↓ev_const, ↓ev_func, ↓ev_global, init, Nat.reduceEqDiff, Nat.reduceAdd, Nat.reduceMul, Nat.reduceSub, ↓reduceIte, Int.reduceEq, Int.reduceNe, Nat.reduceLeDiff, one, Value.cells, Int.reduceLE, Int.reduceLT, Int.reduceToNat, add_mk, reduceCtorEq, List.mem_range'_1, true_and, and_true, and_false, false_and, Nat.reduceLT, Nat.reduceLeDiff, tyF]
  refine call_ok Try.call30 hdc2 ?_
  rintro _ w7 ⟨rfl, hm7⟩
  have hd2 : 0 < l.length → (decC (encC c ++ l)).2 = 2 := by
    intro h
    unfold decC
    rw [if_neg (by rw [List.length_append]; omega)]
  have hdl := decC_len (encC c ++ l)
  simp (config := {maxSteps := 1000000}) only [↓zvD, zvU, ↓up_apply, ↓hv_apply, ↓upO_some, ↓upO_none, ↓ev_tmp, ↓ev_const, ↓ev_func, ↓ev_global, init, Nat.reduceEqDiff, Nat.reduceAdd, Nat.reduceMul, Nat.reduceSub, ↓reduceIte, Int.reduceEq, Int.reduceNe, Nat.reduceLeDiff, one, Value.cells, Int.reduceLE, Int.reduceLT, Int.reduceToNat, add_mk, reduceCtorEq, List.mem_range'_1, true_and, and_true, and_false, false_and, Nat.reduceLT, Nat.reduceLeDiff, tyF, zerCfg]
  have hm8 := more_alloc w7 (.cells (ints z20).toArray 46)
  have hb8 := Blk.new w7 46 (ints z20).toArray
  generalize w7.alloc (.cells (ints z20).toArray 46) = w8 at hm8 hb8 ⊢
  rw [List.toList_toArray] at hb8
  refine st_all hb8 (by rw [List.size_toArray, ints_len, hdl]) (by rw [ints_len]; rfl) (by intro u hu; exact ints_one _ u (by simpa using hu)) fun w9 j1 j2 => ?_
  have hb67 := hb6.more hm7
  have hb9 := j1.blk (hb67.more hm8) (by have := hb67.lt; omega)
  have hM9 : More w w9 := j1.below ((hM6.trans hm7).trans hm8) (hM6.trans hm7).size
  have v9 := hb9.all_eq 20 (by rw [ints_len]; rfl)
  simp (config := {maxSteps := 1000000}) only [↓zvD, zvU, ↓up_apply, ↓hv_apply, ↓upO_some, ↓upO_none, ↓ev_tmp, ↓ev_const, ↓ev_func, ↓ev_global, init, Nat.reduceEqDiff, Nat.reduceAdd, Nat.reduceMul, Nat.reduceSub, ↓reduceIte, Int.reduceEq, Int.reduceNe, Nat.reduceLeDiff, one, Value.cells, Int.reduceLE, Int.reduceLT, Int.reduceToNat, add_mk, reduceCtorEq, List.mem_range'_1, true_and, and_true, and_false, false_and, Nat.reduceLT, Nat.reduceLeDiff, tyF, v9]
  rw [cfg_build0 w]
  have hq := cfg_eq (a := z20) (b := z20) rfl rfl w
  simp (config := {maxSteps := 1000000}) only [↓zvD, zvU, ↓up_apply, ↓hv_apply, ↓upO_some, ↓upO_none, ↓ev_tmp, ↓ev_const, ↓ev_func, ↓ev_global, init, Nat.reduceEqDiff, Nat.reduceAdd, Nat.reduceMul, Nat.reduceSub, ↓reduceIte, Int.reduceEq, Int.reduceNe, Nat.reduceLeDiff, one, Value.cells, Int.reduceLE, Int.reduceLT, Int.reduceToNat, add_mk, reduceCtorEq, List.mem_range'_1, true_and, and_true, and_false, false_and, Nat.reduceLT, Nat.reduceLeDiff, tyF, hq]
  refine ⟨fun _ => hM9, fun h0 => ⟨?_, hM9⟩⟩
  rw [hd2 (by omega)]
  rfl
open Classical in
theorem config_bytes (w : World) (c : List Int) (hc : c.length = 20) (hr : ∀ x ∈ c, inI x) :
    Ret Try.prog 10 #[.agg (ints c).toArray] w fun v w' => v = .bool true ∧ More w w' := by
  refine ret_of Try.func10 rfl (by kernel_rfl) (Nat.le_of_ble_eq_true (by kernel_rfl)) ?_
  have hm1 := more_alloc w (.cells (ints c).toArray 46)
  have hb1 := Blk.new w 46 (ints c).toArray
  have s1 := size_alloc w (.cells (ints c).toArray 46)
  simp (config := {maxSteps := 1000000}) only [↓zvD, zvU, ↓up_apply, ↓hv_apply, ↓upO_some, ↓upO_none, ↓ev_tmp, ↓ev_const, ↓ev_func, ↓ev_global, init, Nat.reduceEqDiff, Nat.reduceAdd, Nat.reduceMul, Nat.reduceSub, ↓reduceIte, Int.reduceEq, Int.reduceNe, Nat.reduceLeDiff, one, Value.cells, Int.reduceLE, Int.reduceLT, Int.reduceToNat, add_mk, reduceCtorEq, List.mem_range'_1, true_and, and_true, and_false, false_and, Nat.reduceLT, Nat.reduceLeDiff, tyF]
  generalize w.alloc (.cells (ints c).toArray 46) = w1 at hm1 hb1 s1 ⊢
  rw [List.toList_toArray] at hb1
  refine call_ok Try.call24 (law26_awake w1) ?_
  rintro _ w2 ⟨rfl, hm2⟩
  have z49 : zer Try.prog 49 = some (.agg (ints z20).toArray) := by rw [zer49]; rfl
  have v1 := (hb1.more hm2).all_eq 20 (by rw [ints_len, hc])
  simp (config := {maxSteps := 1000000}) only [↓zvD, zvU, ↓up_apply, ↓hv_apply, ↓upO_some, ↓upO_none, ↓ev_tmp, ↓ev_const, ↓ev_func, ↓ev_global, init, Nat.reduceEqDiff, Nat.reduceAdd, Nat.reduceMul, Nat.reduceSub, ↓reduceIte, Int.reduceEq, Int.reduceNe, Nat.reduceLeDiff, one, Value.cells, Int.reduceLE, Int.reduceLT, Int.reduceToNat, add_mk, reduceCtorEq, List.mem_range'_1, true_and, and_true, and_false, false_and, Nat.reduceLT, Nat.reduceLeDiff, tyF, v1, z49]
  have hm3 := more_alloc w2 (.cells (ints z20).toArray 49)
  have hb3 := Blk.new w2 49 (ints z20).toArray
  have s3 := size_alloc w2 (.cells (ints z20).toArray 49)
  generalize w2.alloc (.cells (ints z20).toArray 49) = w3 at hm3 hb3 s3 ⊢
  rw [List.toList_toArray] at hb3
  have s2 := hm2.size
  refine st_all hb3 (by rw [List.size_toArray, ints_len, hc]) (by rw [ints_len]; rfl) (by intro u hu; exact ints_one _ u (by simpa using hu)) fun w4 j1 j2 => ?_
  rw [List.toList_toArray] at j2
  have hb4 := j1.blk ((hb1.more hm2).more hm3) (by omega)
  have hM4 : More w w4 := j1.below ((hm1.trans hm2).trans hm3) (hm1.trans hm2).size
  generalize hpp : w.heap.size = p at hb4
  generalize hqq : w2.heap.size = q at j2 s3
  try rw [hpp]
  try rw [hqq]
  have v4 := hb4.all_eq 20 (by rw [ints_len, hc])
  simp (config := {maxSteps := 1000000}) only [↓zvD, zvU, ↓up_apply, ↓hv_apply, ↓upO_some, ↓upO_none, ↓ev_tmp, ↓ev_const, ↓ev_func, ↓ev_global, init, Nat.reduceEqDiff, Nat.reduceAdd, Nat.reduceMul, Nat.reduceSub, ↓reduceIte, Int.reduceEq, Int.reduceNe, Nat.reduceLeDiff, one, Value.cells, Int.reduceLE, Int.reduceLT, Int.reduceToNat, add_mk, reduceCtorEq, List.mem_range'_1, true_and, and_true, and_false, false_and, Nat.reduceLT, Nat.reduceLeDiff, tyF, v4]
  refine call_ok Try.call28 (config_encode w4 c hc) ?_
  rintro v5 w5 ⟨hm5, hy5, hn5⟩
  have hv5 := (j2.more hm5).all_eq 20 (by rw [ints_len, hc])
  have hv5a := (hb4.more hm5).all_eq 20 (by rw [ints_len, hc])
  have hdec := decC_encC hc hr
  have el : (encC c).length = 160 := by rw [encC_len, hc]
  by_cases hR : rightM c
  · obtain ⟨A5, c5, rfl, ho5⟩ := hy5 hR
    have hdc := hdec.1 hR
    simp (config := {maxSteps := 1000000}) only [↓zvD, zvU, ↓up_apply, ↓hv_apply, ↓upO_some, ↓upO_none, ↓ev_tmp, ↓ev_const, ↓ev_func, ↓ev_global, init, Nat.reduceEqDiff, Nat.reduceAdd, Nat.reduceMul, Nat.reduceSub, ↓reduceIte, Int.reduceEq, Int.reduceNe, Nat.reduceLeDiff, one, Value.cells, Int.reduceLE, Int.reduceLT, Int.reduceToNat, add_mk, reduceCtorEq, List.mem_range'_1, true_and, and_true, and_false, false_and, Nat.reduceLT, Nat.reduceLeDiff, tyF, hv5]
    refine call_ok Try.call29 (ref_right26 w5 c hc) ?_
    rintro _ w6 ⟨rfl, hm6⟩
    have hv6 := ((hb4.more hm5).more hm6).all_eq 20 (by rw [ints_len, hc])
    rw [decide_eq_true hR]
    simp (config := {maxSteps := 1000000}) only [↓zvD, zvU, ↓up_apply, ↓hv_apply, ↓upO_some, ↓upO_none, ↓ev_tmp, ↓ev_const, ↓ev_func, ↓ev_global, init, Nat.reduceEqDiff, Nat.reduceAdd, Nat.reduceMul, Nat.reduceSub, ↓reduceIte, Int.reduceEq, Int.reduceNe, Nat.reduceLeDiff, one, Value.cells, Int.reduceLE, Int.reduceLT, Int.reduceToNat, add_mk, reduceCtorEq, List.mem_range'_1, true_and, and_true, and_false, false_and, Nat.reduceLT, Nat.reduceLeDiff, tyF, hv6]
    refine call_ok Try.call27 (config_right w6 c hc) ?_
    rintro _ w7 ⟨rfl, hm7⟩
    have hm57 := (hm5.trans hm6).trans hm7
    have hv7 := (j2.more hm57).all_eq 20 (by rw [ints_len, hc])
    rw [decide_eq_true hR]
    simp (config := {maxSteps := 1000000}) only [↓zvD, zvU, ↓up_apply, ↓hv_apply, ↓upO_some, ↓upO_none, ↓ev_tmp, ↓ev_const, ↓ev_func, ↓ev_global, init, Nat.reduceEqDiff, Nat.reduceAdd, Nat.reduceMul, Nat.reduceSub, ↓reduceIte, Int.reduceEq, Int.reduceNe, Nat.reduceLeDiff, one, Value.cells, Int.reduceLE, Int.reduceLT, Int.reduceToNat, add_mk, reduceCtorEq, List.mem_range'_1, true_and, and_true, and_false, false_and, Nat.reduceLT, Nat.reduceLeDiff, tyF, hv7, beq_self_eq_true]
    refine call_ok Try.call31 (ref_encode26 w7 c hc) ?_
    rintro _ w8 ⟨A8, c8, rfl, ho8, hm8⟩
    simp (config := {maxSteps := 1000000}) only [↓zvD, zvU, ↓up_apply, ↓hv_apply, ↓upO_some, ↓upO_none, ↓ev_tmp, ↓ev_const, ↓ev_func, ↓ev_global, init, Nat.reduceEqDiff, Nat.reduceAdd, Nat.reduceMul, Nat.reduceSub, ↓reduceIte, Int.reduceEq, Int.reduceNe, Nat.reduceLeDiff, one, Value.cells, Int.reduceLE, Int.reduceLT, Int.reduceToNat, add_mk, reduceCtorEq, List.mem_range'_1, true_and, and_true, and_false, false_and, Nat.reduceLT, Nat.reduceLeDiff, tyF]
    have hcd := config_decode w8 A8 (encC c) c8 ho8.cs (by omega)
    rw [el] at hcd
    refine call_ok Try.call30 hcd ?_
    rintro _ w9 ⟨rfl, hm9⟩
    rw [hdc]
    simp (config := {maxSteps := 1000000}) only [↓zvD, zvU, ↓up_apply, ↓hv_apply, ↓upO_some, ↓upO_none, ↓ev_tmp, ↓ev_const, ↓ev_func, ↓ev_global, init, Nat.reduceEqDiff, Nat.reduceAdd, Nat.reduceMul, Nat.reduceSub, ↓reduceIte, Int.reduceEq, Int.reduceNe, Nat.reduceLeDiff, one, Value.cells, Int.reduceLE, Int.reduceLT, Int.reduceToNat, add_mk, reduceCtorEq, List.mem_range'_1, true_and, and_true, and_false, false_and, Nat.reduceLT, Nat.reduceLeDiff, tyF, zerCfg]
    have hm10 := more_alloc w9 (.cells (ints z20).toArray 46)
    have hb10 := Blk.new w9 46 (ints z20).toArray
    generalize w9.alloc (.cells (ints z20).toArray 46) = w10 at hm10 hb10 ⊢
    rw [List.toList_toArray] at hb10
    refine st_all hb10 (by rw [List.size_toArray, ints_len, hc]) (by rw [ints_len]; rfl) (by intro u hu; exact ints_one _ u (by simpa using hu)) fun w11 i1 i2 => ?_
    rw [List.toList_toArray] at i2
    have hm410 : More w4 w10 := ((hm57.trans hm8).trans hm9).trans hm10
    have hm11 : More w4 w11 := i1.below hm410 ((hm57.trans hm8).trans hm9).size
    have hm511 : More w5 w11 := i1.below ((((hm6.trans hm7).trans hm8).trans hm9).trans hm10) (((hm6.trans hm7).trans hm8).trans hm9).size
    have u1 := (hb4.more hm11).all_eq 20 (by rw [ints_len, hc])
    have u2 := (j2.more hm11).all_eq 20 (by rw [ints_len, hc])
    have u3 := i2.all_eq 20 (by rw [ints_len, hc])
    have hq := cfg_eq hc hc w
    have hB11 := ho5.cs.more hm511
    have rs := readstr_eq (B := w11.heap.size) Try.underlying22 Try.underlying5 Try.underlying9 hB11 c5 (Nat.le_refl _)
    rw [el] at rs
    refine draw_name fun K hK => ?_
    refine draw_seen 17 [[], [0], [0, 1], [0, 1, 2], [0, 1, 2, 3], [0, 1, 2], [0, 1, 2, 5], [0, 1, 2, 5, 6], [0, 1, 2, 3, 4, 5, 6, 7], [0, 1, 2, 3, 4, 5, 6, 7, 8], [0, 1, 2, 3, 4, 5, 6, 7, 8, 9], [0, 1, 2, 3, 4, 5, 6, 7, 8, 9, 10], [0, 1, 2, 3, 4, 5, 6, 7, 8, 9, 10, 11], [0, 1, 2, 3, 4, 5, 6, 7, 8, 9, 10, 11, 12], [0, 1, 2, 3, 4, 5, 6, 7, 8, 9, 10, 11, 12, 13], [0, 1, 2, 3, 4, 5, 6, 7, 8, 9, 10, 11, 12, 13, 14], [0, 1, 2, 3, 4, 5, 6, 7, 8, 9, 10, 11, 12, 13, 14], [0, 1, 2, 3, 4, 5, 6, 7, 8, 9, 10, 11, 12, 13, 14, 15, 16], [0, 1, 2, 3, 4, 5, 6, 7, 8, 9, 10, 11, 12, 13, 14, 15, 16, 17], [0, 1, 2, 3, 4, 5, 6, 7, 8, 9, 10, 11, 12, 13, 14, 15, 16, 17, 18]] (RV.look [(6, RV.BsF (encC c)), (7, RV.IsV (.string (bstr (encC c))))]) mixed (by kernel_rfl) (by kernel_rfl) (look_keeps _ (by simp [keepsV, keepsB])) ?_
    simp (config := {maxSteps := 1000000}) only [↓zvD, zvU, ↓zqD, ↓up_apply, ↓hv_apply, ↓upO_some, ↓upO_none, ↓ev_tmp, ↓ev_const, ↓ev_func, ↓ev_global, init, Nat.reduceEqDiff, Nat.reduceAdd, Nat.reduceMul, Nat.reduceSub, ↓reduceIte, Int.reduceEq, Int.reduceNe, Nat.reduceLeDiff, one, Value.cells, Int.reduceLE, Int.reduceLT, Int.reduceToNat, add_mk, reduceCtorEq, List.mem_range'_1, true_and, and_true, and_false, false_and, Nat.reduceLT, Nat.reduceLeDiff, tyF, u1, u2, u3, rs, hq]
    refine ⟨fun w12 hm12 => call_ok Try.call31 (ref_encode26 w12 c hc) ?_, ?_⟩
    · rintro _ w13 ⟨A7, c7, rfl, ho7, hm7⟩
      simp (config := {maxSteps := 1000000}) only [↓zvD, zvU, ↓zqD, ↓up_apply, ↓hv_apply, ↓upO_some, ↓upO_none, ↓ev_tmp, ↓ev_const, ↓ev_func, ↓ev_global, init, Nat.reduceEqDiff, Nat.reduceAdd, Nat.reduceMul, Nat.reduceSub, ↓reduceIte, Int.reduceEq, Int.reduceNe, Nat.reduceLeDiff, one, Value.cells, Int.reduceLE, Int.reduceLT, Int.reduceToNat, add_mk, reduceCtorEq, List.mem_range'_1, true_and, and_true, and_false, false_and, Nat.reduceLT, Nat.reduceLeDiff]
      exact ⟨hm7, A7, c7, by rw [el], ho7.cs⟩
    rintro _ ⟨w12, hm12, A12, c12, rfl, hA12⟩
    simp (config := {maxSteps := 1000000}) only [↓zvD, zvU, ↓zqD, ↓up_apply, ↓hv_apply, ↓upO_some, ↓upO_none, ↓ev_tmp, ↓ev_const, ↓ev_func, ↓ev_global, init, Nat.reduceEqDiff, Nat.reduceAdd, Nat.reduceMul, Nat.reduceSub, ↓reduceIte, Int.reduceEq, Int.reduceNe, Nat.reduceLeDiff, one, Value.cells, Int.reduceLE, Int.reduceLT, Int.reduceToNat, add_mk, reduceCtorEq, List.mem_range'_1, true_and, and_true, and_false, false_and, Nat.reduceLT, Nat.reduceLeDiff, tyF, u1, u2, u3, rs, hq]
    refine ⟨fun w13 hm13 hh => ?_, ?_⟩
    · obtain ⟨A7, c7, e7, hA7⟩ := hh
      cases e7
      refine conv_str Try.underlying22 Try.underlying5 Try.underlying9 hA7 ?_
      simp (config := {maxSteps := 1000000}) only [↓zvD, zvU, ↓zqD, ↓up_apply, ↓hv_apply, ↓upO_some, ↓upO_none, ↓ev_tmp, ↓ev_const, ↓ev_func, ↓ev_global, init, Nat.reduceEqDiff, Nat.reduceAdd, Nat.reduceMul, Nat.reduceSub, ↓reduceIte, Int.reduceEq, Int.reduceNe, Nat.reduceLeDiff, one, Value.cells, Int.reduceLE, Int.reduceLT, Int.reduceToNat, add_mk, reduceCtorEq, List.mem_range'_1, true_and, and_true, and_false, false_and, Nat.reduceLT, Nat.reduceLeDiff]
      exact ⟨More.refl _, rfl⟩
    rintro _ ⟨w13, hm13, _, rfl⟩
    simp (config := {maxSteps := 1000000}) only [↓zvD, zvU, ↓zqD, ↓up_apply, ↓hv_apply, ↓upO_some, ↓upO_none, ↓ev_tmp, ↓ev_const, ↓ev_func, ↓ev_global, init, Nat.reduceEqDiff, Nat.reduceAdd, Nat.reduceMul, Nat.reduceSub, ↓reduceIte, Int.reduceEq, Int.reduceNe, Nat.reduceLeDiff, one, Value.cells, Int.reduceLE, Int.reduceLT, Int.reduceToNat, add_mk, reduceCtorEq, List.mem_range'_1, true_and, and_true, and_false, false_and, Nat.reduceLT, Nat.reduceLeDiff, tyF, u1, u2, u3, rs, hq, beq_self_eq_true]
    intro w14 hm14 _
    refine hK _ _ ?_
    simp (config := {maxSteps := 1000000}) only [↓zvD, zvU, ↓up_apply, ↓hv_apply, ↓upO_some, ↓upO_none, ↓ev_tmp, ↓ev_const, ↓ev_func, ↓ev_global, init, Nat.reduceEqDiff, Nat.reduceAdd, Nat.reduceMul, Nat.reduceSub, ↓reduceIte, Int.reduceEq, Int.reduceNe, Nat.reduceLeDiff, one, Value.cells, Int.reduceLE, Int.reduceLT, Int.reduceToNat, add_mk, reduceCtorEq, List.mem_range'_1, true_and, and_true, and_false, false_and, Nat.reduceLT, Nat.reduceLeDiff, tyF, p_nil, beq_self_eq_true]
    exact (hM4.trans hm11).trans hm14
  · obtain rfl := hn5 hR
    have hdc := hdec.2 hR
    simp (config := {maxSteps := 1000000}) only [↓zvD, zvU, ↓up_apply, ↓hv_apply, ↓upO_some, ↓upO_none, ↓ev_tmp, ↓ev_const, ↓ev_func, ↓ev_global, init, Nat.reduceEqDiff, Nat.reduceAdd, Nat.reduceMul, Nat.reduceSub, ↓reduceIte, Int.reduceEq, Int.reduceNe, Nat.reduceLeDiff, one, Value.cells, Int.reduceLE, Int.reduceLT, Int.reduceToNat, add_mk, reduceCtorEq, List.mem_range'_1, true_and, and_true, and_false, false_and, Nat.reduceLT, Nat.reduceLeDiff, tyF, hv5]
    refine call_ok Try.call29 (ref_right26 w5 c hc) ?_
    rintro _ w6 ⟨rfl, hm6⟩
    have hv6 := ((hb4.more hm5).more hm6).all_eq 20 (by rw [ints_len, hc])
    rw [decide_eq_false hR]
    simp (config := {maxSteps := 1000000}) only [↓zvD, zvU, ↓up_apply, ↓hv_apply, ↓upO_some, ↓upO_none, ↓ev_tmp, ↓ev_const, ↓ev_func, ↓ev_global, init, Nat.reduceEqDiff, Nat.reduceAdd, Nat.reduceMul, Nat.reduceSub, ↓reduceIte, Int.reduceEq, Int.reduceNe, Nat.reduceLeDiff, one, Value.cells, Int.reduceLE, Int.reduceLT, Int.reduceToNat, add_mk, reduceCtorEq, List.mem_range'_1, true_and, and_true, and_false, false_and, Nat.reduceLT, Nat.reduceLeDiff, tyF, hv6]
    refine call_ok Try.call27 (config_right w6 c hc) ?_
    rintro _ w7 ⟨rfl, hm7⟩
    have hm57 := (hm5.trans hm6).trans hm7
    have hv7 := (j2.more hm57).all_eq 20 (by rw [ints_len, hc])
    rw [decide_eq_false hR]
    simp (config := {maxSteps := 1000000}) only [↓zvD, zvU, ↓up_apply, ↓hv_apply, ↓upO_some, ↓upO_none, ↓ev_tmp, ↓ev_const, ↓ev_func, ↓ev_global, init, Nat.reduceEqDiff, Nat.reduceAdd, Nat.reduceMul, Nat.reduceSub, ↓reduceIte, Int.reduceEq, Int.reduceNe, Nat.reduceLeDiff, one, Value.cells, Int.reduceLE, Int.reduceLT, Int.reduceToNat, add_mk, reduceCtorEq, List.mem_range'_1, true_and, and_true, and_false, false_and, Nat.reduceLT, Nat.reduceLeDiff, tyF, hv7, beq_self_eq_true]
    refine call_ok Try.call31 (ref_encode26 w7 c hc) ?_
    rintro _ w8 ⟨A8, c8, rfl, ho8, hm8⟩
    simp (config := {maxSteps := 1000000}) only [↓zvD, zvU, ↓up_apply, ↓hv_apply, ↓upO_some, ↓upO_none, ↓ev_tmp, ↓ev_const, ↓ev_func, ↓ev_global, init, Nat.reduceEqDiff, Nat.reduceAdd, Nat.reduceMul, Nat.reduceSub, ↓reduceIte, Int.reduceEq, Int.reduceNe, Nat.reduceLeDiff, one, Value.cells, Int.reduceLE, Int.reduceLT, Int.reduceToNat, add_mk, reduceCtorEq, List.mem_range'_1, true_and, and_true, and_false, false_and, Nat.reduceLT, Nat.reduceLeDiff, tyF]
    have hcd := config_decode w8 A8 (encC c) c8 ho8.cs (by omega)
    rw [el] at hcd
    refine call_ok Try.call30 hcd ?_
    rintro _ w9 ⟨rfl, hm9⟩
    rw [hdc]
    simp (config := {maxSteps := 1000000}) only [↓zvD, zvU, ↓up_apply, ↓hv_apply, ↓upO_some, ↓upO_none, ↓ev_tmp, ↓ev_const, ↓ev_func, ↓ev_global, init, Nat.reduceEqDiff, Nat.reduceAdd, Nat.reduceMul, Nat.reduceSub, ↓reduceIte, Int.reduceEq, Int.reduceNe, Nat.reduceLeDiff, one, Value.cells, Int.reduceLE, Int.reduceLT, Int.reduceToNat, add_mk, reduceCtorEq, List.mem_range'_1, true_and, and_true, and_false, false_and, Nat.reduceLT, Nat.reduceLeDiff, tyF, zerCfg]
    have hm10 := more_alloc w9 (.cells (ints z20).toArray 46)
    have hb10 := Blk.new w9 46 (ints z20).toArray
    generalize w9.alloc (.cells (ints z20).toArray 46) = w10 at hm10 hb10 ⊢
    rw [List.toList_toArray] at hb10
    rw [st_same_eq hb10 (by rw [ints_len]; rfl) (ints_one _)]
    have v10 := hb10.all_eq 20 (by rw [ints_len]; rfl)
    simp (config := {maxSteps := 1000000}) only [↓zvD, zvU, ↓up_apply, ↓hv_apply, ↓upO_some, ↓upO_none, ↓ev_tmp, ↓ev_const, ↓ev_func, ↓ev_global, init, Nat.reduceEqDiff, Nat.reduceAdd, Nat.reduceMul, Nat.reduceSub, ↓reduceIte, Int.reduceEq, Int.reduceNe, Nat.reduceLeDiff, one, Value.cells, Int.reduceLE, Int.reduceLT, Int.reduceToNat, add_mk, reduceCtorEq, List.mem_range'_1, true_and, and_true, and_false, false_and, Nat.reduceLT, Nat.reduceLeDiff, tyF, v10]
    rw [cfg_build0 w]
    have hq := cfg_eq (a := z20) (b := z20) rfl rfl w
    simp (config := {maxSteps := 1000000}) only [↓zvD, zvU, ↓up_apply, ↓hv_apply, ↓upO_some, ↓upO_none, ↓ev_tmp, ↓ev_const, ↓ev_func, ↓ev_global, init, Nat.reduceEqDiff, Nat.reduceAdd, Nat.reduceMul, Nat.reduceSub, ↓reduceIte, Int.reduceEq, Int.reduceNe, Nat.reduceLeDiff, one, Value.cells, Int.reduceLE, Int.reduceLT, Int.reduceToNat, add_mk, reduceCtorEq, List.mem_range'_1, true_and, and_true, and_false, false_and, Nat.reduceLT, Nat.reduceLeDiff, tyF, hq]
    exact ((hM4.trans hm57).trans (hm8.trans hm9)).trans hm10
end Go.Proofs.Ytgbhgjghlnknjaa
