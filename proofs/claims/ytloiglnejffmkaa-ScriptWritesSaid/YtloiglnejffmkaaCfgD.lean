/-
  Layer 26: a config of bytes.
-/
import Derived.Test.YtloiglnejffmkaaCfgE
namespace Go.Proofs.Ytloiglnejffmkaa
open Go Go.RowKit Go.Proofs.RV
set_option linter.unusedSimpArgs false
set_option linter.unusedVariables false
set_option maxRecDepth 10000
set_option maxHeartbeats 4000000

def z20 : List Int := List.replicate 20 0
def numsC (l : List UInt8) : List Int := (List.range 20).map fun i => IntKind.i64.wrap (numAt l i)
open Classical in
noncomputable def decC (l : List UInt8) : List Int × Int := if l.length = 160 then (if rightM (numsC l) then (numsC l, 0) else (z20, 5)) else (z20, 2)
theorem decC_len (l : List UInt8) : (decC l).1.length = 20 := by
  unfold decC; split
  · split <;> simp [numsC, z20]
  · simp [z20]
def DecIC (l : List UInt8) (k : Nat) (s : InM) (vs : List Int) : Prop :=
  (s = ⟨l.drop (8 * k), false⟩ ∧ 8 * k ≤ l.length ∧ ∀ i, i < k → vs[i]? = some (IntKind.i64.wrap (numAt l i))) ∨ (s.bad = true ∧ l.length < 160)
theorem decC_step {l : List UInt8} {k : Nat} {s : InM} {vs : List Int} (h : DecIC l k s vs) (hk : k < 20) (hv : vs.length = 20) : DecIC l (k + 1) (s.take 8).2 (vs.set k (IntKind.i64.wrap (be (s.take 8).1))) := by
  rcases h with ⟨rfl, hl, hall⟩ | ⟨hb, hno⟩
  · rcases Nat.lt_or_ge l.length (8 * k + 8) with hs | hs
    · right
      have e : (InM.mk (l.drop (8 * k)) false).take 8 = ([], ⟨l.drop (8 * k), true⟩) := take_short (n := 8) (by rw [List.length_drop]; omega)
      rw [e]
      exact ⟨rfl, by omega⟩
    · have e : (InM.mk (l.drop (8 * k)) false).take 8 = ((l.drop (8 * k)).take 8, ⟨(l.drop (8 * k)).drop 8, false⟩) := take_ok (n := 8) (by rw [List.length_drop]; omega)
      rw [e, List.drop_drop]
      left
      refine ⟨by rw [Nat.mul_succ], by omega, fun i hi => ?_⟩
      rcases Nat.lt_or_ge i k with h1 | h1
      · rw [List.getElem?_set_ne (by omega)]
        exact hall i h1
      · obtain rfl : i = k := by omega
        rw [List.getElem?_set_self (by omega)]
        rfl
  · right
    rw [take_badI hb]
    exact ⟨rfl, hno⟩
theorem decC_end {l : List UInt8} {s : InM} {vs : List Int} (h : DecIC l 20 s vs) (hv : vs.length = 20) : (s.done = true → l.length = 160 ∧ vs = numsC l) ∧ (s.done = false → l.length ≠ 160) := by
  rcases h with ⟨rfl, hl, hall⟩ | ⟨hb, hno⟩
  · have hd : (InM.mk (l.drop (8 * 20)) false).done = decide (l.length - 160 = 0) := by simp [InM.done]
    rw [hd]
    refine ⟨fun h => ⟨by have := of_decide_eq_true h; omega, ?_⟩, fun h ho => ?_⟩
    · apply List.ext_getElem?
      intro i
      rcases Nat.lt_or_ge i 20 with hi | hi
      · rw [hall i hi]
        simp [numsC, hi]
      · rw [List.getElem?_eq_none (by omega), List.getElem?_eq_none (by simp [numsC]; omega)]
    · have := of_decide_eq_false h
      omega
  · have hd : s.done = false := by simp [InM.done, hb]
    rw [hd]
    exact ⟨fun h => by simp at h, fun _ => by omega⟩
theorem zerCfg : zer Try.prog 157 = some (.agg (ints z20).toArray) := by rw [zer157]; rfl
theorem cfg_build0 (w0 : World) (K : Value → Prop) : pureP Try.prog (Instr.build 157 #[]) K = K (.agg (ints z20).toArray) :=
  build_of (ints z20) (by kernel_rfl) zerCfg (by kernel_rfl) w0 K
def DecCR (l : List UInt8) (w : World) (v : Value) (w' : World) : Prop := v = .tuple #[.agg (ints (decC l).1).toArray, .int .i64 (decC l).2] ∧ More w w'
def DecCJ (l : List UInt8) (w : World) (F : Nat → Prop) (q p z b P o n : Nat) (v : Value) (w' : World) : Prop :=
  ∃ (k : Nat) (s : InM) (vs : List Int), v = .int .i64 k ∧ k ≤ n ∧ InW w' F q s ∧ s.rest.length ≤ l.length ∧ vs.length = 20 ∧ Blk w' p 157 (ints vs) ∧ Blk w' z 157 (ints z20) ∧ Blk w' b P (ptrsO p o n) ∧ More w w' ∧ DecIC l (o + k) s vs
open Classical in
theorem config_decode (w : World) (A : Option Addr) (l : List UInt8) (c : Nat) (hA : Bs w A l) (hl : l.length ≤ 4000000) :
    Ret Try.prog 110 #[.slice A l.length c] w (DecCR l w) := by
  refine ret_of Try.func110 rfl (by kernel_rfl) (Nat.le_of_ble_eq_true (by kernel_rfl)) ?_
  have hm1 := more_alloc w (.cells (ints z20).toArray 157)
  have hb1 := Blk.new w 157 (ints z20).toArray
  have s1 := size_alloc w (.cells (ints z20).toArray 157)
  simp (config := {maxSteps := 1000000}) only [↓zvD, zvU, ↓up_apply, ↓hv_apply, ↓upO_some, ↓upO_none, ↓ev_tmp, ↓ev_const, ↓ev_func, ↓ev_global, init, Nat.reduceEqDiff, Nat.reduceAdd, Nat.reduceMul, Nat.reduceSub, ↓reduceIte, Int.reduceEq, Int.reduceNe, Nat.reduceLeDiff, one, Value.cells, Int.reduceLE, Int.reduceLT, Int.reduceToNat, add_mk, reduceCtorEq, List.mem_range'_1, true_and, and_true, and_false, false_and, Nat.reduceLT, Nat.reduceLeDiff, tyF, zerCfg]
  generalize w.alloc (.cells (ints z20).toArray 157) = w1 at hm1 hb1 s1 ⊢
  have hm2 := more_alloc w1 (.cells (ints z20).toArray 157)
  have hb2 := Blk.new w1 157 (ints z20).toArray
  have s2 := size_alloc w1 (.cells (ints z20).toArray 157)
  generalize w1.alloc (.cells (ints z20).toArray 157) = w2 at hm2 hb2 s2 ⊢
  rw [List.toList_toArray] at hb1 hb2
  have hb12 := hb1.more hm2
  replace hm2 := hm1.trans hm2
  have hl20 : (ints z20).length = 20 := rfl
  generalize hzz : w.heap.size = z at hb12 s1
  generalize hpp : w1.heap.size = p at hb2 s1 s2
  try rw [hzz]
  try rw [hpp]
  refine call_ok Try.call18 (cur_new w2 A l c (hA.more hm2) hl) ?_
  rintro _ w3 ⟨q, rfl, hq, hI3, hm3⟩
  simp (config := {maxSteps := 1000000}) only [↓zvD, zvU, ↓up_apply, ↓hv_apply, ↓upO_some, ↓upO_none, ↓ev_tmp, ↓ev_const, ↓ev_func, ↓ev_global, init, Nat.reduceEqDiff, Nat.reduceAdd, Nat.reduceMul, Nat.reduceSub, ↓reduceIte, Int.reduceEq, Int.reduceNe, Nat.reduceLeDiff, one, Value.cells, Int.reduceLE, Int.reduceLT, Int.reduceToNat, add_mk, reduceCtorEq, List.mem_range'_1, true_and, and_true, and_false, false_and, Nat.reduceLT, Nat.reduceLeDiff, tyF]
  refine call_ok Try.call128 (config_ints w3 p _ (hb2.more hm3)) ?_
  rintro _ w4 ⟨b4, rfl, hb4, hp4, hm4⟩
  simp (config := {maxSteps := 1000000}) only [↓zvD, zvU, ↓up_apply, ↓hv_apply, ↓upO_some, ↓upO_none, ↓ev_tmp, ↓ev_const, ↓ev_func, ↓ev_global, init, Nat.reduceEqDiff, Nat.reduceAdd, Nat.reduceMul, Nat.reduceSub, ↓reduceIte, Int.reduceEq, Int.reduceNe, Nat.reduceLeDiff, one, Value.cells, Int.reduceLE, Int.reduceLT, Int.reduceToNat, add_mk, reduceCtorEq, List.mem_range'_1, true_and, and_true, and_false, false_and, Nat.reduceLT, Nat.reduceLeDiff, tyF]
  have hqlt : q < w3.heap.size := by obtain ⟨_, _, h, _⟩ := hI3; exact h.lt
  generalize hFF : (fun k => w2.heap.size ≤ k ∧ k < q) = F at hI3
  have hF : ∀ k, F k → w2.heap.size ≤ k ∧ k < q := fun k hk => by rw [← hFF] at hk; exact hk
  have hpz : z < p := by omega
  refine loop_p [7, 14, 15, 16, 17, 18, 19, 20, 21, 22, 23] (fun e w' => DecCJ l w F q p z b4 227 0 8 (e 14) w') (fun e _ => 8 - (numOf (e 14)).toNat) ?_ ?_
  · exact ⟨0, _, _, by simp only [hv_apply, up_apply, upO_some, upO_none, init, List.mem_cons, List.mem_range'_1, true_and, and_true, and_false, false_and, Nat.reduceLT, Nat.reduceLeDiff, Nat.reduceAdd, true_or, or_true, if_true, if_false, ↓reduceIte, Nat.reduceEqDiff, false_or, or_false, List.not_mem_nil, List.getElem?_cons_zero, List.getElem?_cons_succ, Option.getD_some] <;> rfl, by omega, hI3.more hm4, Nat.le_refl _, rfl, (hb2.more hm3).more hm4, (hb12.more hm3).more hm4, hp4, hm2.trans (hm3.trans hm4), .inl ⟨by simp, by omega, fun i hi => by omega⟩⟩
  rintro v w5 ⟨k, s, vs, h8, hk, hI5, hr5, hv5, hb5, hz5, hp5, hm5, hd5⟩
  simp only [hv_apply, up_apply, upO_some, upO_none, init, List.mem_cons, List.mem_range'_1, true_and, and_true, and_false, false_and, Nat.reduceLT, Nat.reduceLeDiff, Nat.reduceAdd, true_or, or_true, if_true, if_false, ↓reduceIte, Nat.reduceEqDiff, false_or, or_false, List.not_mem_nil, List.getElem?_cons_zero, List.getElem?_cons_succ, Option.getD_some] at h8
  have ek : IntKind.i64.wrap ((k : Int) + 1) = ((k + 1 : Nat) : Int) := w64 (by omega) (by omega)
  have g0 : (0 : Int) ≤ (k : Int) := by omega
  simp (config := {maxSteps := 1000000}) only [↓zvD, zvU, ↓up_apply, ↓hv_apply, ↓upO_some, ↓upO_none, ↓ev_tmp, ↓ev_const, ↓ev_func, ↓ev_global, init, Nat.reduceEqDiff, Nat.reduceAdd, Nat.reduceMul, Nat.reduceSub, ↓reduceIte, Int.reduceEq, Int.reduceNe, Nat.reduceLeDiff, one, Value.cells, Int.reduceLE, Int.reduceLT, Int.reduceToNat, add_mk, reduceCtorEq, List.mem_range'_1, true_and, and_true, and_false, false_and, Nat.reduceLT, Nat.reduceLeDiff, tyF, h8]
  refine ⟨fun h9 => ?_, fun h9 => ?_⟩
  · have hk1 : k < 8 := by omega
    have hc := ptrs_cell hp5 hk1
    try simp only [Nat.zero_add] at hc
    simp (config := {maxSteps := 1000000}) only [↓zvD, zvU, ↓up_apply, ↓hv_apply, ↓upO_some, ↓upO_none, ↓ev_tmp, ↓ev_const, ↓ev_func, ↓ev_global, init, Nat.reduceEqDiff, Nat.reduceAdd, Nat.reduceMul, Nat.reduceSub, ↓reduceIte, Int.reduceEq, Int.reduceNe, Nat.reduceLeDiff, one, Value.cells, Int.reduceLE, Int.reduceLT, Int.reduceToNat, add_mk, reduceCtorEq, List.mem_range'_1, true_and, and_true, and_false, false_and, Nat.reduceLT, Nat.reduceLeDiff, tyF, h8, g0, h9, hc, Int.toNat_natCast]
    refine call_ok Try.call81 (cur_u64 _ _ q s hI5 (by omega)) ?_
    rintro _ w6 ⟨rfl, hI6, hbt6⟩
    have hstep := decC_step hd5 (by omega) hv5
    have hr6 : (s.take 8).2.rest.length ≤ l.length := by have := s.take_rest 8; omega
    have hb6 := hbt6.blk hb5 (by omega)
    have hz6 := hbt6.blk hz5 (by omega)
    have hp6 := hbt6.blk hp5 (by omega)
    have hm6 := more_but hm5 hbt6 (by omega)
    simp (config := {maxSteps := 1000000}) only [↓zvD, zvU, ↓up_apply, ↓hv_apply, ↓upO_some, ↓upO_none, ↓ev_tmp, ↓ev_const, ↓ev_func, ↓ev_global, init, Nat.reduceEqDiff, Nat.reduceAdd, Nat.reduceMul, Nat.reduceSub, ↓reduceIte, Int.reduceEq, Int.reduceNe, Nat.reduceLeDiff, one, Value.cells, Int.reduceLE, Int.reduceLT, Int.reduceToNat, add_mk, reduceCtorEq, List.mem_range'_1, true_and, and_true, and_false, false_and, Nat.reduceLT, Nat.reduceLeDiff, tyF, h8]
    refine st_cell hb6 (by rw [ints_len]; omega) rfl fun w8 k1 k2 => ?_
    have hI8 := hI6.wr k1 (by omega) (fun k hk => by have := hF k hk; omega)
    simp (config := {maxSteps := 1000000}) only [↓zvD, zvU, ↓up_apply, ↓hv_apply, ↓upO_some, ↓upO_none, ↓ev_tmp, ↓ev_const, ↓ev_func, ↓ev_global, init, Nat.reduceEqDiff, Nat.reduceAdd, Nat.reduceMul, Nat.reduceSub, ↓reduceIte, Int.reduceEq, Int.reduceNe, Nat.reduceLeDiff, one, Value.cells, Int.reduceLE, Int.reduceLT, Int.reduceToNat, add_mk, reduceCtorEq, List.mem_range'_1, true_and, and_true, and_false, false_and, Nat.reduceLT, Nat.reduceLeDiff, tyF, h8, ek]
    refine ⟨⟨?_, k + 1, _, vs.set (0 + k) (IntKind.i64.wrap (be (s.take 8).1)), rfl, by omega, hI8, hr6, by rw [List.length_set]; exact hv5, ?_, k1.blk hz6 (by omega), k1.blk hp6 (by omega), k1.below hm6 (by omega), hstep⟩, by simp only [numOf]; omega⟩
    · repeat (first | exact Same.hv _ _ _ | refine Same.up (by simp) ?_)
    · have e : (ints vs).set (0 + k) (.int .i64 (IntKind.i64.wrap (be (s.take 8).1))) = ints (vs.set (0 + k) (IntKind.i64.wrap (be (s.take 8).1))) := by simp [ints, List.map_set]
      rw [← e]
      try simp only [Nat.zero_add] at k2 ⊢
      exact k2
  obtain rfl : k = 8 := by omega
  refine call_ok Try.call129 (config_longs w5 p _ hb5) ?_
  rintro _ w7 ⟨b7, rfl, hb7, hp7, hm7⟩
  simp (config := {maxSteps := 1000000}) only [↓zvD, zvU, ↓up_apply, ↓hv_apply, ↓upO_some, ↓upO_none, ↓ev_tmp, ↓ev_const, ↓ev_func, ↓ev_global, init, Nat.reduceEqDiff, Nat.reduceAdd, Nat.reduceMul, Nat.reduceSub, ↓reduceIte, Int.reduceEq, Int.reduceNe, Nat.reduceLeDiff, one, Value.cells, Int.reduceLE, Int.reduceLT, Int.reduceToNat, add_mk, reduceCtorEq, List.mem_range'_1, true_and, and_true, and_false, false_and, Nat.reduceLT, Nat.reduceLeDiff, tyF]
  have hI7 := hI5.more hm7
  have hB7 := hb5.more hm7
  have hZ7 := hz5.more hm7
  have hM7 := hm5.trans hm7
  have hqb : q < b7 := by obtain ⟨_, _, h, _⟩ := hI5; have := h.lt; omega
  clear hI5 hb5 hz5 hm5 hp5 h8 hk ek g0 h9
  refine loop_p [9, 26, 27, 28, 29, 30, 31, 32, 33, 34, 35] (fun e w' => DecCJ l w F q p z b7 230 8 12 (e 26) w') (fun e _ => 12 - (numOf (e 26)).toNat) ?_ ?_
  · exact ⟨0, _, _, by simp only [hv_apply, up_apply, upO_some, upO_none, init, List.mem_cons, List.mem_range'_1, true_and, and_true, and_false, false_and, Nat.reduceLT, Nat.reduceLeDiff, Nat.reduceAdd, true_or, or_true, if_true, if_false, ↓reduceIte, Nat.reduceEqDiff, false_or, or_false, List.not_mem_nil, List.getElem?_cons_zero, List.getElem?_cons_succ, Option.getD_some] <;> rfl, by omega, hI7, hr5, hv5, hB7, hZ7, hp7, hM7, hd5⟩
  rintro v w8 ⟨k, s, vs, h8, hk, hI5, hr5, hv5, hb5, hz5, hp5, hm5, hd5⟩
  simp only [hv_apply, up_apply, upO_some, upO_none, init, List.mem_cons, List.mem_range'_1, true_and, and_true, and_false, false_and, Nat.reduceLT, Nat.reduceLeDiff, Nat.reduceAdd, true_or, or_true, if_true, if_false, ↓reduceIte, Nat.reduceEqDiff, false_or, or_false, List.not_mem_nil, List.getElem?_cons_zero, List.getElem?_cons_succ, Option.getD_some] at h8
  have ek : IntKind.i64.wrap ((k : Int) + 1) = ((k + 1 : Nat) : Int) := w64 (by omega) (by omega)
  have g0 : (0 : Int) ≤ (k : Int) := by omega
  simp (config := {maxSteps := 1000000}) only [↓zvD, zvU, ↓up_apply, ↓hv_apply, ↓upO_some, ↓upO_none, ↓ev_tmp, ↓ev_const, ↓ev_func, ↓ev_global, init, Nat.reduceEqDiff, Nat.reduceAdd, Nat.reduceMul, Nat.reduceSub, ↓reduceIte, Int.reduceEq, Int.reduceNe, Nat.reduceLeDiff, one, Value.cells, Int.reduceLE, Int.reduceLT, Int.reduceToNat, add_mk, reduceCtorEq, List.mem_range'_1, true_and, and_true, and_false, false_and, Nat.reduceLT, Nat.reduceLeDiff, tyF, h8]
  refine ⟨fun h9 => ?_, fun h9 => ?_⟩
  · have hk1 : k < 12 := by omega
    have hc := ptrs_cell hp5 hk1
    try simp only [Nat.zero_add] at hc
    simp (config := {maxSteps := 1000000}) only [↓zvD, zvU, ↓up_apply, ↓hv_apply, ↓upO_some, ↓upO_none, ↓ev_tmp, ↓ev_const, ↓ev_func, ↓ev_global, init, Nat.reduceEqDiff, Nat.reduceAdd, Nat.reduceMul, Nat.reduceSub, ↓reduceIte, Int.reduceEq, Int.reduceNe, Nat.reduceLeDiff, one, Value.cells, Int.reduceLE, Int.reduceLT, Int.reduceToNat, add_mk, reduceCtorEq, List.mem_range'_1, true_and, and_true, and_false, false_and, Nat.reduceLT, Nat.reduceLeDiff, tyF, h8, g0, h9, hc, Int.toNat_natCast]
    refine call_ok Try.call81 (cur_u64 _ _ q s hI5 (by omega)) ?_
    rintro _ w6 ⟨rfl, hI6, hbt6⟩
    have hstep := decC_step hd5 (by omega) hv5
    have hr6 : (s.take 8).2.rest.length ≤ l.length := by have := s.take_rest 8; omega
    have hb6 := hbt6.blk hb5 (by omega)
    have hz6 := hbt6.blk hz5 (by omega)
    have hp6 := hbt6.blk hp5 (by omega)
    have hm6 := more_but hm5 hbt6 (by omega)
    simp (config := {maxSteps := 1000000}) only [↓zvD, zvU, ↓up_apply, ↓hv_apply, ↓upO_some, ↓upO_none, ↓ev_tmp, ↓ev_const, ↓ev_func, ↓ev_global, init, Nat.reduceEqDiff, Nat.reduceAdd, Nat.reduceMul, Nat.reduceSub, ↓reduceIte, Int.reduceEq, Int.reduceNe, Nat.reduceLeDiff, one, Value.cells, Int.reduceLE, Int.reduceLT, Int.reduceToNat, add_mk, reduceCtorEq, List.mem_range'_1, true_and, and_true, and_false, false_and, Nat.reduceLT, Nat.reduceLeDiff, tyF, h8]
    refine st_cell hb6 (by rw [ints_len]; omega) rfl fun w8 k1 k2 => ?_
    have hI8 := hI6.wr k1 (by omega) (fun k hk => by have := hF k hk; omega)
    simp (config := {maxSteps := 1000000}) only [↓zvD, zvU, ↓up_apply, ↓hv_apply, ↓upO_some, ↓upO_none, ↓ev_tmp, ↓ev_const, ↓ev_func, ↓ev_global, init, Nat.reduceEqDiff, Nat.reduceAdd, Nat.reduceMul, Nat.reduceSub, ↓reduceIte, Int.reduceEq, Int.reduceNe, Nat.reduceLeDiff, one, Value.cells, Int.reduceLE, Int.reduceLT, Int.reduceToNat, add_mk, reduceCtorEq, List.mem_range'_1, true_and, and_true, and_false, false_and, Nat.reduceLT, Nat.reduceLeDiff, tyF, h8, ek]
    refine ⟨⟨?_, k + 1, _, vs.set (8 + k) (IntKind.i64.wrap (be (s.take 8).1)), rfl, by omega, hI8, hr6, by rw [List.length_set]; exact hv5, ?_, k1.blk hz6 (by omega), k1.blk hp6 (by omega), k1.below hm6 (by omega), hstep⟩, by simp only [numOf]; omega⟩
    · repeat (first | exact Same.hv _ _ _ | refine Same.up (by simp) ?_)
    · have e : (ints vs).set (8 + k) (.int .i64 (IntKind.i64.wrap (be (s.take 8).1))) = ints (vs.set (8 + k) (IntKind.i64.wrap (be (s.take 8).1))) := by simp [ints, List.map_set]
      rw [← e]
      try simp only [Nat.zero_add] at k2 ⊢
      exact k2
  obtain rfl : k = 12 := by omega
  have hend := decC_end hd5 hv5
  refine call_ok Try.call32 (cur_done w8 _ q s hI5) ?_
  rintro _ w9 ⟨rfl, rfl⟩
  have hbv := hb5.all_eq 20 (by rw [ints_len, hv5])
  cases hdn : s.done with
  | false =>
    have hno := hend.2 hdn
    simp (config := {maxSteps := 1000000}) only [↓zvD, zvU, ↓up_apply, ↓hv_apply, ↓upO_some, ↓upO_none, ↓ev_tmp, ↓ev_const, ↓ev_func, ↓ev_global, init, Nat.reduceEqDiff, Nat.reduceAdd, Nat.reduceMul, Nat.reduceSub, ↓reduceIte, Int.reduceEq, Int.reduceNe, Nat.reduceLeDiff, one, Value.cells, Int.reduceLE, Int.reduceLT, Int.reduceToNat, add_mk, reduceCtorEq, List.mem_range'_1, true_and, and_true, and_false, false_and, Nat.reduceLT, Nat.reduceLeDiff, tyF]
    rw [cfg_build0 w]
    simp (config := {maxSteps := 1000000}) only [↓zvD, zvU, ↓up_apply, ↓hv_apply, ↓upO_some, ↓upO_none, ↓ev_tmp, ↓ev_const, ↓ev_func, ↓ev_global, init, Nat.reduceEqDiff, Nat.reduceAdd, Nat.reduceMul, Nat.reduceSub, ↓reduceIte, Int.reduceEq, Int.reduceNe, Nat.reduceLeDiff, one, Value.cells, Int.reduceLE, Int.reduceLT, Int.reduceToNat, add_mk, reduceCtorEq, List.mem_range'_1, true_and, and_true, and_false, false_and, Nat.reduceLT, Nat.reduceLeDiff, tyF]
    rw [st_same_eq hz5 (by rw [ints_len]; rfl) (ints_one _)]
    have hzv := hz5.all_eq 20 (by rw [ints_len]; rfl)
    simp (config := {maxSteps := 1000000}) only [↓zvD, zvU, ↓up_apply, ↓hv_apply, ↓upO_some, ↓upO_none, ↓ev_tmp, ↓ev_const, ↓ev_func, ↓ev_global, init, Nat.reduceEqDiff, Nat.reduceAdd, Nat.reduceMul, Nat.reduceSub, ↓reduceIte, Int.reduceEq, Int.reduceNe, Nat.reduceLeDiff, one, Value.cells, Int.reduceLE, Int.reduceLT, Int.reduceToNat, add_mk, reduceCtorEq, List.mem_range'_1, true_and, and_true, and_false, false_and, Nat.reduceLT, Nat.reduceLeDiff, tyF, hzv]
    refine ⟨?_, hm5⟩
    unfold decC
    rw [if_neg hno]
  | true =>
    obtain ⟨h160, rfl⟩ := hend.1 hdn
    simp (config := {maxSteps := 1000000}) only [↓zvD, zvU, ↓up_apply, ↓hv_apply, ↓upO_some, ↓upO_none, ↓ev_tmp, ↓ev_const, ↓ev_func, ↓ev_global, init, Nat.reduceEqDiff, Nat.reduceAdd, Nat.reduceMul, Nat.reduceSub, ↓reduceIte, Int.reduceEq, Int.reduceNe, Nat.reduceLeDiff, one, Value.cells, Int.reduceLE, Int.reduceLT, Int.reduceToNat, add_mk, reduceCtorEq, List.mem_range'_1, true_and, and_true, and_false, false_and, Nat.reduceLT, Nat.reduceLeDiff, tyF, hbv]
    refine call_ok Try.call130 (config_right _ _ hv5) ?_
    rintro _ w10 ⟨rfl, hm10⟩
    have hz10 := hz5.more hm10
    have hb10 := hb5.more hm10
    by_cases hr : rightM (numsC l)
    · rw [decide_eq_true hr]
      have hbv := hb10.all_eq 20 (by rw [ints_len, hv5])
      simp (config := {maxSteps := 1000000}) only [↓zvD, zvU, ↓up_apply, ↓hv_apply, ↓upO_some, ↓upO_none, ↓ev_tmp, ↓ev_const, ↓ev_func, ↓ev_global, init, Nat.reduceEqDiff, Nat.reduceAdd, Nat.reduceMul, Nat.reduceSub, ↓reduceIte, Int.reduceEq, Int.reduceNe, Nat.reduceLeDiff, one, Value.cells, Int.reduceLE, Int.reduceLT, Int.reduceToNat, add_mk, reduceCtorEq, List.mem_range'_1, true_and, and_true, and_false, false_and, Nat.reduceLT, Nat.reduceLeDiff, tyF, hbv]
      refine st_all hz10 (by simp [ints_len, hv5]) (by rw [ints_len]; rfl) (ints_one _) fun w11 k1 k2 => ?_
      rw [List.toList_toArray] at k2
      have hzv := k2.all_eq 20 (by rw [ints_len, hv5])
      simp (config := {maxSteps := 1000000}) only [↓zvD, zvU, ↓up_apply, ↓hv_apply, ↓upO_some, ↓upO_none, ↓ev_tmp, ↓ev_const, ↓ev_func, ↓ev_global, init, Nat.reduceEqDiff, Nat.reduceAdd, Nat.reduceMul, Nat.reduceSub, ↓reduceIte, Int.reduceEq, Int.reduceNe, Nat.reduceLeDiff, one, Value.cells, Int.reduceLE, Int.reduceLT, Int.reduceToNat, add_mk, reduceCtorEq, List.mem_range'_1, true_and, and_true, and_false, false_and, Nat.reduceLT, Nat.reduceLeDiff, tyF, hzv]
      refine ⟨?_, k1.below (hm5.trans hm10) (by omega)⟩
      unfold decC
      rw [if_pos h160, if_pos hr]
    · rw [decide_eq_false hr]
      simp (config := {maxSteps := 1000000}) only [↓zvD, zvU, ↓up_apply, ↓hv_apply, ↓upO_some, ↓upO_none, ↓ev_tmp, ↓ev_const, ↓ev_func, ↓ev_global, init, Nat.reduceEqDiff, Nat.reduceAdd, Nat.reduceMul, Nat.reduceSub, ↓reduceIte, Int.reduceEq, Int.reduceNe, Nat.reduceLeDiff, one, Value.cells, Int.reduceLE, Int.reduceLT, Int.reduceToNat, add_mk, reduceCtorEq, List.mem_range'_1, true_and, and_true, and_false, false_and, Nat.reduceLT, Nat.reduceLeDiff, tyF]
      rw [cfg_build0 w]
      simp (config := {maxSteps := 1000000}) only [↓zvD, zvU, ↓up_apply, ↓hv_apply, ↓upO_some, ↓upO_none, ↓ev_tmp, ↓ev_const, ↓ev_func, ↓ev_global, init, Nat.reduceEqDiff, Nat.reduceAdd, Nat.reduceMul, Nat.reduceSub, ↓reduceIte, Int.reduceEq, Int.reduceNe, Nat.reduceLeDiff, one, Value.cells, Int.reduceLE, Int.reduceLT, Int.reduceToNat, add_mk, reduceCtorEq, List.mem_range'_1, true_and, and_true, and_false, false_and, Nat.reduceLT, Nat.reduceLeDiff, tyF]
      rw [st_same_eq hz10 (by rw [ints_len]; rfl) (ints_one _)]
      have hzv := hz10.all_eq 20 (by rw [ints_len]; rfl)
      simp (config := {maxSteps := 1000000}) only [↓zvD, zvU, ↓up_apply, ↓hv_apply, ↓upO_some, ↓upO_none, ↓ev_tmp, ↓ev_const, ↓ev_func, ↓ev_global, init, Nat.reduceEqDiff, Nat.reduceAdd, Nat.reduceMul, Nat.reduceSub, ↓reduceIte, Int.reduceEq, Int.reduceNe, Nat.reduceLeDiff, one, Value.cells, Int.reduceLE, Int.reduceLT, Int.reduceToNat, add_mk, reduceCtorEq, List.mem_range'_1, true_and, and_true, and_false, false_and, Nat.reduceLT, Nat.reduceLeDiff, tyF, hzv]
      refine ⟨?_, hm5.trans hm10⟩
      unfold decC
      rw [if_pos h160, if_neg hr]
end Go.Proofs.Ytloiglnejffmkaa
