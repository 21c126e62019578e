/-
  Layer 31: script.take.
-/
import Derived.Test.YtloiglnejffmkaaScrA
import Derived.Test.YtloiglnejffmkaaSq
namespace Go.Proofs.Ytloiglnejffmkaa
open Go Go.RowKit Go.Proofs.RV
set_option linter.unusedSimpArgs false
set_option linter.unusedVariables false
set_option maxRecDepth 10000
set_option maxHeartbeats 4000000

theorem butW {q p : Nat} {a b c : World} (h : But q a b) (hw : Wr p b c) (hp : a.heap.size ≤ p) : But q a c := h.next (Mod.of_wr (S := fun k => k = p) hw rfl) (fun k hk e => by omega)
theorem script_take (w : World) (F : Nat → Prop) (q : Nat) (k : Int) (s : InM) (hI : InW w F q s) (hl : s.rest.length ≤ 4000000) (hF : ∀ a, F a → a < w.heap.size) :
    Ret Try.prog 85 #[.pointer (some ⟨q, 0, none⟩), .int .u8 k] w (TakeR w F q (takeM k s).1 (takeM k s).2) := by
  refine ret_of Try.func85 rfl (by kernel_rfl) (Nat.le_of_ble_eq_true (by kernel_rfl)) ?_
  have hq : q < w.heap.size := by obtain ⟨_, _, h, _⟩ := hI; exact h.lt
  have hm1 := more_alloc w (.cells ((opZ 0).cells (.slice none 0 0)).toArray 159)
  have hb1 := Blk.new w 159 ((opZ 0).cells (.slice none 0 0)).toArray
  have s1 := size_alloc w (.cells ((opZ 0).cells (.slice none 0 0)).toArray 159)
  simp (config := {maxSteps := 1000000}) only [↓zvD, zvU, ↓up_apply, ↓hv_apply, ↓upO_some, ↓upO_none, ↓ev_tmp, ↓ev_const, ↓ev_func, ↓ev_global, init, Nat.reduceEqDiff, Nat.reduceAdd, Nat.reduceMul, Nat.reduceSub, ↓reduceIte, Int.reduceEq, Int.reduceNe, Nat.reduceLeDiff, one, Value.cells, Int.reduceLE, Int.reduceLT, Int.reduceToNat, add_mk, reduceCtorEq, List.mem_range'_1, true_and, and_true, and_false, false_and, Nat.reduceLT, Nat.reduceLeDiff, tyF, zerOp, op_build k w]
  generalize w.alloc (.cells ((opZ 0).cells (.slice none 0 0)).toArray 159) = w1 at hm1 hb1 s1 ⊢
  have hm2 := more_alloc w1 (.cells ((opZ 0).cells (.slice none 0 0)).toArray 159)
  have hb2 := Blk.new w1 159 ((opZ 0).cells (.slice none 0 0)).toArray
  have s2 := size_alloc w1 (.cells ((opZ 0).cells (.slice none 0 0)).toArray 159)
  generalize w1.alloc (.cells ((opZ 0).cells (.slice none 0 0)).toArray 159) = w1' at hm2 hb2 s2 ⊢
  rw [List.toList_toArray] at hb1 hb2
  have hz1 := hb1.more hm2
  have hI1 := (hI.more hm1).more hm2
  replace hm1 := hm1.trans hm2
  refine st_all hb2 (by simp [SOp.len (opZ_fit k)]) (SOp.len (opZ_fit 0) _) (by simpa using SOp.one (opZ k) (sl := .slice none 0 0) rfl) fun w2 j1 j2 => ?_
  rw [List.toList_toArray] at j2
  have hb2 := j2
  have hz2 := j1.blk hz1 (by omega)
  have hI2 := hI1.wr j1 (by omega) (fun a ha => by have := hF a ha; omega)
  have s3 := j1.size
  have hm2 : More w w2 := j1.below hm1 (by omega)
  generalize hzz : w.heap.size = z at *
  generalize hpp : w1.heap.size = p at *
  unfold takeM
  by_cases h1 : k = 1
  · rw [if_pos h1]
    subst h1
    simp (config := {maxSteps := 1000000}) only [↓zvD, zvU, ↓up_apply, ↓hv_apply, ↓upO_some, ↓upO_none, ↓ev_tmp, ↓ev_const, ↓ev_func, ↓ev_global, init, Nat.reduceEqDiff, Nat.reduceAdd, Nat.reduceMul, Nat.reduceSub, ↓reduceIte, Int.reduceEq, Int.reduceNe, Nat.reduceLeDiff, one, Value.cells, Int.reduceLE, Int.reduceLT, Int.reduceToNat, add_mk, reduceCtorEq, List.mem_range'_1, true_and, and_true, and_false, false_and, Nat.reduceLT, Nat.reduceLeDiff, tyF]
    refine call_ok Try.call81 (cur_u64 w2 _ q s hI2 hl) ?_
    rintro _ w3 ⟨rfl, hI3, hbt3⟩
    simp (config := {maxSteps := 1000000}) only [↓zvD, zvU, ↓up_apply, ↓hv_apply, ↓upO_some, ↓upO_none, ↓ev_tmp, ↓ev_const, ↓ev_func, ↓ev_global, init, Nat.reduceEqDiff, Nat.reduceAdd, Nat.reduceMul, Nat.reduceSub, ↓reduceIte, Int.reduceEq, Int.reduceNe, Nat.reduceLeDiff, one, Value.cells, Int.reduceLE, Int.reduceLT, Int.reduceToNat, add_mk, reduceCtorEq, List.mem_range'_1, true_and, and_true, and_false, false_and, Nat.reduceLT, Nat.reduceLeDiff, tyF]
    have hb3 := hbt3.blk hb2 (by omega)
    have hz3 := hbt3.blk hz2 (by omega)
    refine st_cell hb3 (by rw [SOp.len (opZ_fit 1)]; omega) rfl fun w4 k1 k2 => ?_
    have k3 : Blk w4 p 159 ((opT 1 (IntKind.i64.wrap (be (s.take 8).1))).cells (.slice none 0 0)) := k2
    have hO : OpO w4 (p + 1) (opT 1 (IntKind.i64.wrap (be (s.take 8).1))) none 0 := Own.nil _ _ _ _
    have hOf : OpO _ (p + 1) (opT 1 (IntKind.i64.wrap (be (s.take 8).1))) none 0 := hO
    have l5 := (k3).all_eq 49 (SOp.len (⟨rfl, rfl, rfl⟩ : SOp.Fit (opT 1 (IntKind.i64.wrap (be (s.take 8).1)))) _)
    try simp (config := {maxSteps := 1000000}) only [↓zvD, zvU, ↓up_apply, ↓hv_apply, ↓upO_some, ↓upO_none, ↓ev_tmp, ↓ev_const, ↓ev_func, ↓ev_global, init, Nat.reduceEqDiff, Nat.reduceAdd, Nat.reduceMul, Nat.reduceSub, ↓reduceIte, Int.reduceEq, Int.reduceNe, Nat.reduceLeDiff, one, Value.cells, Int.reduceLE, Int.reduceLT, Int.reduceToNat, add_mk, reduceCtorEq, List.mem_range'_1, true_and, and_true, and_false, false_and, Nat.reduceLT, Nat.reduceLeDiff, tyF]
    try simp only [l5]
    try simp (config := {maxSteps := 1000000}) only [↓zvD, zvU, ↓up_apply, ↓hv_apply, ↓upO_some, ↓upO_none, ↓ev_tmp, ↓ev_const, ↓ev_func, ↓ev_global, init, Nat.reduceEqDiff, Nat.reduceAdd, Nat.reduceMul, Nat.reduceSub, ↓reduceIte, Int.reduceEq, Int.reduceNe, Nat.reduceLeDiff, one, Value.cells, Int.reduceLE, Int.reduceLT, Int.reduceToNat, add_mk, reduceCtorEq, List.mem_range'_1, true_and, and_true, and_false, false_and, Nat.reduceLT, Nat.reduceLeDiff, tyF]
    refine st_all (k1.blk hz3 (by omega)) (by simp [SOp.len (⟨rfl, rfl, rfl⟩ : SOp.Fit (opT 1 (IntKind.i64.wrap (be (s.take 8).1))))]) (SOp.len (opZ_fit 0) _) (fun u hu => SOp.one (opT 1 (IntKind.i64.wrap (be (s.take 8).1))) (sl := .slice none (opT 1 (IntKind.i64.wrap (be (s.take 8).1))).b.length 0) rfl u hu) fun w9 i1 i2 => ?_
    rw [List.toList_toArray] at i2
    have l9 := i2.all_eq 49 (SOp.len (⟨rfl, rfl, rfl⟩ : SOp.Fit (opT 1 (IntKind.i64.wrap (be (s.take 8).1)))) _)
    simp (config := {maxSteps := 1000000}) only [↓zvD, zvU, ↓up_apply, ↓hv_apply, ↓upO_some, ↓upO_none, ↓ev_tmp, ↓ev_const, ↓ev_func, ↓ev_global, init, Nat.reduceEqDiff, Nat.reduceAdd, Nat.reduceMul, Nat.reduceSub, ↓reduceIte, Int.reduceEq, Int.reduceNe, Nat.reduceLeDiff, one, Value.cells, Int.reduceLE, Int.reduceLT, Int.reduceToNat, add_mk, reduceCtorEq, List.mem_range'_1, true_and, and_true, and_false, false_and, Nat.reduceLT, Nat.reduceLeDiff, tyF, l9]
    exact ⟨none, 0, rfl, Own.mono (Own.wrLt hOf i1 (by omega)) (by omega), InW.wr (hI3.wr k1 (by omega) (fun a ha => by have := hF a ha; omega)) i1 (by omega) (fun a ha => by have := hF a ha; omega), butW (butW ((But.of_more hm2).trans hbt3) k1 (by omega)) i1 (by omega)⟩
  rw [if_neg h1]
  by_cases h2 : k = 2
  · rw [if_pos h2]
    subst h2
    simp (config := {maxSteps := 1000000}) only [↓zvD, zvU, ↓up_apply, ↓hv_apply, ↓upO_some, ↓upO_none, ↓ev_tmp, ↓ev_const, ↓ev_func, ↓ev_global, init, Nat.reduceEqDiff, Nat.reduceAdd, Nat.reduceMul, Nat.reduceSub, ↓reduceIte, Int.reduceEq, Int.reduceNe, Nat.reduceLeDiff, one, Value.cells, Int.reduceLE, Int.reduceLT, Int.reduceToNat, add_mk, reduceCtorEq, List.mem_range'_1, true_and, and_true, and_false, false_and, Nat.reduceLT, Nat.reduceLeDiff, tyF]
    refine call_ok Try.call81 (cur_u64 w2 _ q s hI2 hl) ?_
    rintro _ w3 ⟨rfl, hI3, hbt3⟩
    have r3 := s.take_rest 8
    simp (config := {maxSteps := 1000000}) only [↓zvD, zvU, ↓up_apply, ↓hv_apply, ↓upO_some, ↓upO_none, ↓ev_tmp, ↓ev_const, ↓ev_func, ↓ev_global, init, Nat.reduceEqDiff, Nat.reduceAdd, Nat.reduceMul, Nat.reduceSub, ↓reduceIte, Int.reduceEq, Int.reduceNe, Nat.reduceLeDiff, one, Value.cells, Int.reduceLE, Int.reduceLT, Int.reduceToNat, add_mk, reduceCtorEq, List.mem_range'_1, true_and, and_true, and_false, false_and, Nat.reduceLT, Nat.reduceLeDiff, tyF]
    refine call_ok Try.call81 (cur_u64 w3 _ q _ hI3 (by omega)) ?_
    rintro _ w4 ⟨rfl, hI4, hbt4⟩
    have r4 := (s.take 8).2.take_rest 8
    simp (config := {maxSteps := 1000000}) only [↓zvD, zvU, ↓up_apply, ↓hv_apply, ↓upO_some, ↓upO_none, ↓ev_tmp, ↓ev_const, ↓ev_func, ↓ev_global, init, Nat.reduceEqDiff, Nat.reduceAdd, Nat.reduceMul, Nat.reduceSub, ↓reduceIte, Int.reduceEq, Int.reduceNe, Nat.reduceLeDiff, one, Value.cells, Int.reduceLE, Int.reduceLT, Int.reduceToNat, add_mk, reduceCtorEq, List.mem_range'_1, true_and, and_true, and_false, false_and, Nat.reduceLT, Nat.reduceLeDiff, tyF, draws_build _ _ w]
    have hb4 := hbt4.blk (hbt3.blk hb2 (by omega)) (by omega)
    have hz4 := hbt4.blk (hbt3.blk hz2 (by omega)) (by omega)
    refine st_row hb4 (by rfl) (by rw [SOp.len (opZ_fit 2)]; omega) (by simp [Value.oneCell']) fun w5 k1 k2 => ?_
    have k3 : Blk w5 p 159 ((opD 2 (be (s.take 8).1) (be ((s.take 8).2.take 8).1) []).cells (.slice none 0 0)) := k2
    have hI5 := hI4.wr k1 (by omega) (fun a ha => by have := hF a ha; omega)
    have hz5 := k1.blk hz4 (by omega)
    have hB5 := butW (((But.of_more hm2).trans hbt3).trans hbt4) k1 (by omega)
    have s5 := k1.size
    have l4 := hb4.lt
    try simp (config := {maxSteps := 1000000}) only [↓zvD, zvU, ↓up_apply, ↓hv_apply, ↓upO_some, ↓upO_none, ↓ev_tmp, ↓ev_const, ↓ev_func, ↓ev_global, init, Nat.reduceEqDiff, Nat.reduceAdd, Nat.reduceMul, Nat.reduceSub, ↓reduceIte, Int.reduceEq, Int.reduceNe, Nat.reduceLeDiff, one, Value.cells, Int.reduceLE, Int.reduceLT, Int.reduceToNat, add_mk, reduceCtorEq, List.mem_range'_1, true_and, and_true, and_false, false_and, Nat.reduceLT, Nat.reduceLeDiff, tyF]
    refine call_ok Try.call78 (cur_u16 w5 _ q _ hI5 (by omega)) ?_
    rintro _ w6 ⟨rfl, hI6, hbt6⟩
    have r6 := (((s.take 8).2.take 8).2).take_rest 2
    have r7 := be_range ((((s.take 8).2.take 8).2.take 2).1)
    have r8 : be ((((s.take 8).2.take 8).2.take 2).1) < (256 ^ 2 : Nat) := be_lt ((((s.take 8).2.take 8).2).take_len 2)
    have e6 : IntKind.i64.wrap (be ((((s.take 8).2.take 8).2.take 2).1)) = be ((((s.take 8).2.take 8).2.take 2).1) := w64 (by omega) (by omega)
    simp (config := {maxSteps := 1000000}) only [↓zvD, zvU, ↓up_apply, ↓hv_apply, ↓upO_some, ↓upO_none, ↓ev_tmp, ↓ev_const, ↓ev_func, ↓ev_global, init, Nat.reduceEqDiff, Nat.reduceAdd, Nat.reduceMul, Nat.reduceSub, ↓reduceIte, Int.reduceEq, Int.reduceNe, Nat.reduceLeDiff, one, Value.cells, Int.reduceLE, Int.reduceLT, Int.reduceToNat, add_mk, reduceCtorEq, List.mem_range'_1, true_and, and_true, and_false, false_and, Nat.reduceLT, Nat.reduceLeDiff, tyF, e6]
    refine call_ok Try.call20 (cur_raw w6 _ q _ _ hI6 (by omega)) ?_
    rintro _ w7 ⟨A7, c7, rfl, ho7, hI7, hbt7⟩
    have k7 := hbt7.blk (hbt6.blk k3 (by omega)) (by omega)
    have hz7 := hbt7.blk (hbt6.blk hz5 (by omega)) (by omega)
    simp (config := {maxSteps := 1000000}) only [↓zvD, zvU, ↓up_apply, ↓hv_apply, ↓upO_some, ↓upO_none, ↓ev_tmp, ↓ev_const, ↓ev_func, ↓ev_global, init, Nat.reduceEqDiff, Nat.reduceAdd, Nat.reduceMul, Nat.reduceSub, ↓reduceIte, Int.reduceEq, Int.reduceNe, Nat.reduceLeDiff, one, Value.cells, Int.reduceLE, Int.reduceLT, Int.reduceToNat, add_mk, reduceCtorEq, List.mem_range'_1, true_and, and_true, and_false, false_and, Nat.reduceLT, Nat.reduceLeDiff, tyF]
    refine st_cell k7 (by rw [SOp.len (o := opD 2 (be (s.take 8).1) (be ((s.take 8).2.take 8).1) []) ⟨rfl, rfl, rfl⟩]; omega) rfl fun w8 k1' k2' => ?_
    have k8 : Blk w8 p 159 ((opD 2 (be (s.take 8).1) (be ((s.take 8).2.take 8).1) ((((s.take 8).2.take 8).2.take 2).2.take (be (((s.take 8).2.take 8).2.take 2).1)).1).cells (.slice A7 ((((s.take 8).2.take 8).2.take 2).2.take (be (((s.take 8).2.take 8).2.take 2).1)).1.length c7)) := k2'
    have s6 := hbt6.size
    have hO : OpO w8 (p + 1) (opD 2 (be (s.take 8).1) (be ((s.take 8).2.take 8).1) ((((s.take 8).2.take 8).2.take 2).2.take (be (((s.take 8).2.take 8).2.take 2).1)).1) A7 c7 := Own.wrLt (Own.mono ho7 (by omega)) k1' (by omega)
    have hI8 := hI7.wr k1' (by omega) (fun a ha => by have := hF a ha; omega)
    have hz8 := k1'.blk hz7 (by omega)
    have hB8 := butW ((hB5.trans hbt6).trans hbt7) k1' (by omega)
    have hOf : OpO _ (p + 1) (opD 2 (be (s.take 8).1) (be ((s.take 8).2.take 8).1) ((((s.take 8).2.take 8).2.take 2).2.take (be (((s.take 8).2.take 8).2.take 2).1)).1) A7 c7 := hO
    have l5 := (k8).all_eq 49 (SOp.len (⟨rfl, rfl, rfl⟩ : SOp.Fit (opD 2 (be (s.take 8).1) (be ((s.take 8).2.take 8).1) ((((s.take 8).2.take 8).2.take 2).2.take (be (((s.take 8).2.take 8).2.take 2).1)).1)) _)
    try simp (config := {maxSteps := 1000000}) only [↓zvD, zvU, ↓up_apply, ↓hv_apply, ↓upO_some, ↓upO_none, ↓ev_tmp, ↓ev_const, ↓ev_func, ↓ev_global, init, Nat.reduceEqDiff, Nat.reduceAdd, Nat.reduceMul, Nat.reduceSub, ↓reduceIte, Int.reduceEq, Int.reduceNe, Nat.reduceLeDiff, one, Value.cells, Int.reduceLE, Int.reduceLT, Int.reduceToNat, add_mk, reduceCtorEq, List.mem_range'_1, true_and, and_true, and_false, false_and, Nat.reduceLT, Nat.reduceLeDiff, tyF]
    try simp only [l5]
    try simp (config := {maxSteps := 1000000}) only [↓zvD, zvU, ↓up_apply, ↓hv_apply, ↓upO_some, ↓upO_none, ↓ev_tmp, ↓ev_const, ↓ev_func, ↓ev_global, init, Nat.reduceEqDiff, Nat.reduceAdd, Nat.reduceMul, Nat.reduceSub, ↓reduceIte, Int.reduceEq, Int.reduceNe, Nat.reduceLeDiff, one, Value.cells, Int.reduceLE, Int.reduceLT, Int.reduceToNat, add_mk, reduceCtorEq, List.mem_range'_1, true_and, and_true, and_false, false_and, Nat.reduceLT, Nat.reduceLeDiff, tyF]
    refine st_all hz8 (by simp [SOp.len (⟨rfl, rfl, rfl⟩ : SOp.Fit (opD 2 (be (s.take 8).1) (be ((s.take 8).2.take 8).1) ((((s.take 8).2.take 8).2.take 2).2.take (be (((s.take 8).2.take 8).2.take 2).1)).1))]) (SOp.len (opZ_fit 0) _) (fun u hu => SOp.one (opD 2 (be (s.take 8).1) (be ((s.take 8).2.take 8).1) ((((s.take 8).2.take 8).2.take 2).2.take (be (((s.take 8).2.take 8).2.take 2).1)).1) (sl := .slice A7 (opD 2 (be (s.take 8).1) (be ((s.take 8).2.take 8).1) ((((s.take 8).2.take 8).2.take 2).2.take (be (((s.take 8).2.take 8).2.take 2).1)).1).b.length c7) rfl u hu) fun w9 i1 i2 => ?_
    rw [List.toList_toArray] at i2
    have l9 := i2.all_eq 49 (SOp.len (⟨rfl, rfl, rfl⟩ : SOp.Fit (opD 2 (be (s.take 8).1) (be ((s.take 8).2.take 8).1) ((((s.take 8).2.take 8).2.take 2).2.take (be (((s.take 8).2.take 8).2.take 2).1)).1)) _)
    simp (config := {maxSteps := 1000000}) only [↓zvD, zvU, ↓up_apply, ↓hv_apply, ↓upO_some, ↓upO_none, ↓ev_tmp, ↓ev_const, ↓ev_func, ↓ev_global, init, Nat.reduceEqDiff, Nat.reduceAdd, Nat.reduceMul, Nat.reduceSub, ↓reduceIte, Int.reduceEq, Int.reduceNe, Nat.reduceLeDiff, one, Value.cells, Int.reduceLE, Int.reduceLT, Int.reduceToNat, add_mk, reduceCtorEq, List.mem_range'_1, true_and, and_true, and_false, false_and, Nat.reduceLT, Nat.reduceLeDiff, tyF, l9]
    exact ⟨A7, c7, rfl, Own.mono (Own.wrLt hOf i1 (by omega)) (by omega), InW.wr hI8 i1 (by omega) (fun a ha => by have := hF a ha; omega), butW hB8 i1 (by omega)⟩
  rw [if_neg h2]
  by_cases h4 : k = 4
  · rw [if_pos h4]
    subst h4
    simp (config := {maxSteps := 1000000}) only [↓zvD, zvU, ↓up_apply, ↓hv_apply, ↓upO_some, ↓upO_none, ↓ev_tmp, ↓ev_const, ↓ev_func, ↓ev_global, init, Nat.reduceEqDiff, Nat.reduceAdd, Nat.reduceMul, Nat.reduceSub, ↓reduceIte, Int.reduceEq, Int.reduceNe, Nat.reduceLeDiff, one, Value.cells, Int.reduceLE, Int.reduceLT, Int.reduceToNat, add_mk, reduceCtorEq, List.mem_range'_1, true_and, and_true, and_false, false_and, Nat.reduceLT, Nat.reduceLeDiff, tyF]
    refine draw_seq q [false, false, false, true, true] [[], [0], [], [2], [0, 1, 2, 3]] mixed (by kernel_rfl) (by kernel_rfl) ?_
    intro w3 hm3
    try simp (config := {maxSteps := 1000000}) only [↓zvD, zvU, ↓zqD, ↓sq_nil, ↓sq_cons, ↓sq_guard, ↓sq_true, ↓sq_false, ↓up_apply, ↓hv_apply, ↓upO_some, ↓upO_none, ↓ev_tmp, ↓ev_const, ↓ev_func, ↓ev_global, init, Nat.reduceEqDiff, Nat.reduceAdd, Nat.reduceMul, Nat.reduceSub, ↓reduceIte, Int.reduceEq, Int.reduceNe, Nat.reduceLeDiff, one, Value.cells, Int.reduceLE, Int.reduceLT, Int.reduceToNat, add_mk, reduceCtorEq, List.mem_range'_1, true_and, and_true, and_false, false_and, Nat.reduceLT, Nat.reduceLeDiff, tyF]
    refine call_ok Try.call20 (cur_raw w3 _ q s 16 (hI2.more hm3) hl) ?_
    rintro _ w4 ⟨A4, c4, rfl, ho4, hI4, hbt4⟩
    have s3' := hm3.size
    have hb4 := hbt4.blk (hb2.more hm3) (by omega)
    have hz4 := hbt4.blk (hz2.more hm3) (by omega)
    have l2 := hb2.lt
    try simp (config := {maxSteps := 1000000}) only [↓zvD, zvU, ↓zqD, ↓sq_nil, ↓sq_cons, ↓sq_guard, ↓sq_true, ↓sq_false, ↓up_apply, ↓hv_apply, ↓upO_some, ↓upO_none, ↓ev_tmp, ↓ev_const, ↓ev_func, ↓ev_global, init, Nat.reduceEqDiff, Nat.reduceAdd, Nat.reduceMul, Nat.reduceSub, ↓reduceIte, Int.reduceEq, Int.reduceNe, Nat.reduceLeDiff, one, Value.cells, Int.reduceLE, Int.reduceLT, Int.reduceToNat, add_mk, reduceCtorEq, List.mem_range'_1, true_and, and_true, and_false, false_and, Nat.reduceLT, Nat.reduceLeDiff, tyF]
    refine ⟨(hm3.mono (by omega)).trans (hbt4.below (Nat.le_refl _) (by omega)), ?_⟩
    have t4 : (s.take 16).1.length ≤ 16 := by simpa using s.take_len 16
    refine copy_blk (news := (s.take 16).1.map byteV) Try.underlying22 cells5 hb4 (Cs.take ho4.cs _) (by simp) (byteV_one _) (by rw [SOp.len (opZ_fit 4)]; omega) fun w5 k1 k2 => ?_
    rw [List.take_of_length_le (by simpa using t4), opK_put 4 _ t4] at k2
    try simp (config := {maxSteps := 1000000}) only [↓zvD, zvU, ↓zqD, ↓sq_nil, ↓sq_cons, ↓sq_guard, ↓sq_true, ↓sq_false, ↓up_apply, ↓hv_apply, ↓upO_some, ↓upO_none, ↓ev_tmp, ↓ev_const, ↓ev_func, ↓ev_global, init, Nat.reduceEqDiff, Nat.reduceAdd, Nat.reduceMul, Nat.reduceSub, ↓reduceIte, Int.reduceEq, Int.reduceNe, Nat.reduceLeDiff, one, Value.cells, Int.reduceLE, Int.reduceLT, Int.reduceToNat, add_mk, reduceCtorEq, List.mem_range'_1, true_and, and_true, and_false, false_and, Nat.reduceLT, Nat.reduceLeDiff, tyF]
    refine ⟨k1.below ((hm3.mono (by omega)).trans (hbt4.below (Nat.le_refl _) (by omega))) (by omega), ?_⟩
    try simp (config := {maxSteps := 1000000}) only [↓zvD, zvU, ↓zqD, ↓sq_nil, ↓sq_cons, ↓sq_guard, ↓sq_true, ↓sq_false, ↓up_apply, ↓hv_apply, ↓upO_some, ↓upO_none, ↓ev_tmp, ↓ev_const, ↓ev_func, ↓ev_global, init, Nat.reduceEqDiff, Nat.reduceAdd, Nat.reduceMul, Nat.reduceSub, ↓reduceIte, Int.reduceEq, Int.reduceNe, Nat.reduceLeDiff, one, Value.cells, Int.reduceLE, Int.reduceLT, Int.reduceToNat, add_mk, reduceCtorEq, List.mem_range'_1, true_and, and_true, and_false, false_and, Nat.reduceLT, Nat.reduceLeDiff, tyF]
    have hO : OpO w5 (p + 1) (opK 4 (padTo 16 (s.take 16).1)) none 0 := Own.nil _ _ _ _
    have hz5 := k1.blk hz4 (by omega)
    have hI5 := hI4.wr k1 (by omega) (fun a ha => by have := hF a ha; omega)
    have hB5 := butW ((But.of_more (hm2.trans hm3)).trans hbt4) k1 (by omega)
    have hOf : OpO _ (p + 1) (opK 4 (padTo 16 (s.take 16).1)) none 0 := hO
    have l5 := (k2).all_eq 49 (SOp.len (⟨padTo_len t4, rfl, rfl⟩ : SOp.Fit (opK 4 (padTo 16 (s.take 16).1))) _)
    try simp (config := {maxSteps := 1000000}) only [↓zvD, zvU, ↓up_apply, ↓hv_apply, ↓upO_some, ↓upO_none, ↓ev_tmp, ↓ev_const, ↓ev_func, ↓ev_global, init, Nat.reduceEqDiff, Nat.reduceAdd, Nat.reduceMul, Nat.reduceSub, ↓reduceIte, Int.reduceEq, Int.reduceNe, Nat.reduceLeDiff, one, Value.cells, Int.reduceLE, Int.reduceLT, Int.reduceToNat, add_mk, reduceCtorEq, List.mem_range'_1, true_and, and_true, and_false, false_and, Nat.reduceLT, Nat.reduceLeDiff, tyF]
    try simp only [l5]
    try simp (config := {maxSteps := 1000000}) only [↓zvD, zvU, ↓up_apply, ↓hv_apply, ↓upO_some, ↓upO_none, ↓ev_tmp, ↓ev_const, ↓ev_func, ↓ev_global, init, Nat.reduceEqDiff, Nat.reduceAdd, Nat.reduceMul, Nat.reduceSub, ↓reduceIte, Int.reduceEq, Int.reduceNe, Nat.reduceLeDiff, one, Value.cells, Int.reduceLE, Int.reduceLT, Int.reduceToNat, add_mk, reduceCtorEq, List.mem_range'_1, true_and, and_true, and_false, false_and, Nat.reduceLT, Nat.reduceLeDiff, tyF]
    refine st_all hz5 (by simp [SOp.len (⟨padTo_len t4, rfl, rfl⟩ : SOp.Fit (opK 4 (padTo 16 (s.take 16).1)))]) (SOp.len (opZ_fit 0) _) (fun u hu => SOp.one (opK 4 (padTo 16 (s.take 16).1)) (sl := .slice none (opK 4 (padTo 16 (s.take 16).1)).b.length 0) rfl u hu) fun w9 i1 i2 => ?_
    rw [List.toList_toArray] at i2
    have l9 := i2.all_eq 49 (SOp.len (⟨padTo_len t4, rfl, rfl⟩ : SOp.Fit (opK 4 (padTo 16 (s.take 16).1))) _)
    simp (config := {maxSteps := 1000000}) only [↓zvD, zvU, ↓up_apply, ↓hv_apply, ↓upO_some, ↓upO_none, ↓ev_tmp, ↓ev_const, ↓ev_func, ↓ev_global, init, Nat.reduceEqDiff, Nat.reduceAdd, Nat.reduceMul, Nat.reduceSub, ↓reduceIte, Int.reduceEq, Int.reduceNe, Nat.reduceLeDiff, one, Value.cells, Int.reduceLE, Int.reduceLT, Int.reduceToNat, add_mk, reduceCtorEq, List.mem_range'_1, true_and, and_true, and_false, false_and, Nat.reduceLT, Nat.reduceLeDiff, tyF, l9]
    exact ⟨none, 0, rfl, Own.mono (Own.wrLt hOf i1 (by omega)) (by omega), InW.wr hI5 i1 (by omega) (fun a ha => by have := hF a ha; omega), butW hB5 i1 (by omega)⟩
  rw [if_neg h4]
  by_cases h5 : k = 5
  · rw [if_pos h5]
    subst h5
    simp (config := {maxSteps := 1000000}) only [↓zvD, zvU, ↓up_apply, ↓hv_apply, ↓upO_some, ↓upO_none, ↓ev_tmp, ↓ev_const, ↓ev_func, ↓ev_global, init, Nat.reduceEqDiff, Nat.reduceAdd, Nat.reduceMul, Nat.reduceSub, ↓reduceIte, Int.reduceEq, Int.reduceNe, Nat.reduceLeDiff, one, Value.cells, Int.reduceLE, Int.reduceLT, Int.reduceToNat, add_mk, reduceCtorEq, List.mem_range'_1, true_and, and_true, and_false, false_and, Nat.reduceLT, Nat.reduceLeDiff, tyF]
    refine call_ok Try.call76 (cur_u8 w2 _ q s hI2 hl) ?_
    rintro _ w3 ⟨rfl, hI3, hbt3⟩
    have r3 := s.take_rest 1
    have hb3 := hbt3.blk hb2 (by omega)
    have hz3 := hbt3.blk hz2 (by omega)
    have hB3 := (But.of_more hm2).trans hbt3
    have l3 := hb3.lt
    by_cases hx : 1 < be (s.take 1).1
    · rw [if_pos hx]
      simp (config := {maxSteps := 1000000}) only [↓zvD, zvU, ↓up_apply, ↓hv_apply, ↓upO_some, ↓upO_none, ↓ev_tmp, ↓ev_const, ↓ev_func, ↓ev_global, init, Nat.reduceEqDiff, Nat.reduceAdd, Nat.reduceMul, Nat.reduceSub, ↓reduceIte, Int.reduceEq, Int.reduceNe, Nat.reduceLeDiff, one, Value.cells, Int.reduceLE, Int.reduceLT, Int.reduceToNat, add_mk, reduceCtorEq, List.mem_range'_1, true_and, and_true, and_false, false_and, Nat.reduceLT, Nat.reduceLeDiff, tyF, hx]
      refine call_ok Try.call33 (cur_fail w3 _ q _ hI3) ?_
      rintro _ w4 ⟨rfl, hI4, hbt4⟩
      have hb4 := hbt4.blk hb3 (by omega)
      have hz4 := hbt4.blk hz3 (by omega)
      have hB4 := hB3.trans hbt4
      have l4 := hb4.lt
      simp (config := {maxSteps := 1000000}) only [↓zvD, zvU, ↓up_apply, ↓hv_apply, ↓upO_some, ↓upO_none, ↓ev_tmp, ↓ev_const, ↓ev_func, ↓ev_global, init, Nat.reduceEqDiff, Nat.reduceAdd, Nat.reduceMul, Nat.reduceSub, ↓reduceIte, Int.reduceEq, Int.reduceNe, Nat.reduceLeDiff, one, Value.cells, Int.reduceLE, Int.reduceLT, Int.reduceToNat, add_mk, reduceCtorEq, List.mem_range'_1, true_and, and_true, and_false, false_and, Nat.reduceLT, Nat.reduceLeDiff, tyF]
      refine st_cell hb4 (by rw [SOp.len (opZ_fit 5)]; omega) rfl fun w5 k1 k2 => ?_
      have k3 : Blk w5 p 159 ((opP 5 (decide (be (s.take 1).1 = 1)) (noBytes 7)).cells (.slice none 0 0)) := k2
      have hz5 := k1.blk hz4 (by omega)
      have hI5 := (hI4).wr k1 (by omega) (fun a ha => by have := hF a ha; omega)
      have hB5 := butW hB4 k1 (by omega)
      have s5 := k1.size
      try simp (config := {maxSteps := 1000000}) only [↓zvD, zvU, ↓up_apply, ↓hv_apply, ↓upO_some, ↓upO_none, ↓ev_tmp, ↓ev_const, ↓ev_func, ↓ev_global, init, Nat.reduceEqDiff, Nat.reduceAdd, Nat.reduceMul, Nat.reduceSub, ↓reduceIte, Int.reduceEq, Int.reduceNe, Nat.reduceLeDiff, one, Value.cells, Int.reduceLE, Int.reduceLT, Int.reduceToNat, add_mk, reduceCtorEq, List.mem_range'_1, true_and, and_true, and_false, false_and, Nat.reduceLT, Nat.reduceLeDiff, tyF]
      refine draw_seq q [false, false, false, false, true, true] [[], [0], [0, 1], [], [3], [0, 1, 2, 3, 4]] mixed (by kernel_rfl) (by kernel_rfl) ?_
      intro w6 hm6
      try simp (config := {maxSteps := 1000000}) only [↓zvD, zvU, ↓zqD, ↓sq_nil, ↓sq_cons, ↓sq_guard, ↓sq_true, ↓sq_false, ↓up_apply, ↓hv_apply, ↓upO_some, ↓upO_none, ↓ev_tmp, ↓ev_const, ↓ev_func, ↓ev_global, init, Nat.reduceEqDiff, Nat.reduceAdd, Nat.reduceMul, Nat.reduceSub, ↓reduceIte, Int.reduceEq, Int.reduceNe, Nat.reduceLeDiff, one, Value.cells, Int.reduceLE, Int.reduceLT, Int.reduceToNat, add_mk, reduceCtorEq, List.mem_range'_1, true_and, and_true, and_false, false_and, Nat.reduceLT, Nat.reduceLeDiff, tyF]
      refine call_ok Try.call20 (cur_raw w6 _ q (InM.mk (s.take 1).2.rest true) 7 (hI5.more hm6) (by first | exact Nat.le_trans r3 hl | (simp only; omega))) ?_
      rintro _ w7 ⟨A7, c7, rfl, ho7, hI7, hbt7⟩
      have s6 := hm6.size
      have hb7 := hbt7.blk (k3.more hm6) (by omega)
      have hz7 := hbt7.blk (hz5.more hm6) (by omega)
      try simp (config := {maxSteps := 1000000}) only [↓zvD, zvU, ↓zqD, ↓sq_nil, ↓sq_cons, ↓sq_guard, ↓sq_true, ↓sq_false, ↓up_apply, ↓hv_apply, ↓upO_some, ↓upO_none, ↓ev_tmp, ↓ev_const, ↓ev_func, ↓ev_global, init, Nat.reduceEqDiff, Nat.reduceAdd, Nat.reduceMul, Nat.reduceSub, ↓reduceIte, Int.reduceEq, Int.reduceNe, Nat.reduceLeDiff, one, Value.cells, Int.reduceLE, Int.reduceLT, Int.reduceToNat, add_mk, reduceCtorEq, List.mem_range'_1, true_and, and_true, and_false, false_and, Nat.reduceLT, Nat.reduceLeDiff, tyF]
      refine ⟨(hm6.mono (by omega)).trans (hbt7.below (Nat.le_refl _) (by omega)), ?_⟩
      try simp (config := {maxSteps := 1000000}) only [↓zvD, zvU, ↓zqD, ↓sq_nil, ↓sq_cons, ↓sq_guard, ↓sq_true, ↓sq_false, ↓up_apply, ↓hv_apply, ↓upO_some, ↓upO_none, ↓ev_tmp, ↓ev_const, ↓ev_func, ↓ev_global, init, Nat.reduceEqDiff, Nat.reduceAdd, Nat.reduceMul, Nat.reduceSub, ↓reduceIte, Int.reduceEq, Int.reduceNe, Nat.reduceLeDiff, one, Value.cells, Int.reduceLE, Int.reduceLT, Int.reduceToNat, add_mk, reduceCtorEq, List.mem_range'_1, true_and, and_true, and_false, false_and, Nat.reduceLT, Nat.reduceLeDiff, tyF]
      have t7 : ((InM.mk (s.take 1).2.rest true).take 7).1.length ≤ 7 := by simpa using (InM.mk (s.take 1).2.rest true).take_len 7
      refine copy_blk (news := ((InM.mk (s.take 1).2.rest true).take 7).1.map byteV) Try.underlying22 cells5 hb7 (Cs.take ho7.cs _) (by simp) (byteV_one _) (by rw [SOp.len (o := opP 5 (decide (be (s.take 1).1 = 1)) (noBytes 7)) ⟨rfl, rfl, rfl⟩]; omega) fun w8 j1 j2 => ?_
      rw [List.take_of_length_le (by simpa using t7), opP_put 5 _ _ t7] at j2
      try simp (config := {maxSteps := 1000000}) only [↓zvD, zvU, ↓zqD, ↓sq_nil, ↓sq_cons, ↓sq_guard, ↓sq_true, ↓sq_false, ↓up_apply, ↓hv_apply, ↓upO_some, ↓upO_none, ↓ev_tmp, ↓ev_const, ↓ev_func, ↓ev_global, init, Nat.reduceEqDiff, Nat.reduceAdd, Nat.reduceMul, Nat.reduceSub, ↓reduceIte, Int.reduceEq, Int.reduceNe, Nat.reduceLeDiff, one, Value.cells, Int.reduceLE, Int.reduceLT, Int.reduceToNat, add_mk, reduceCtorEq, List.mem_range'_1, true_and, and_true, and_false, false_and, Nat.reduceLT, Nat.reduceLeDiff, tyF]
      refine ⟨j1.below ((hm6.mono (by omega)).trans (hbt7.below (Nat.le_refl _) (by omega))) (by omega), ?_⟩
      try simp (config := {maxSteps := 1000000}) only [↓zvD, zvU, ↓zqD, ↓sq_nil, ↓sq_cons, ↓sq_guard, ↓sq_true, ↓sq_false, ↓up_apply, ↓hv_apply, ↓upO_some, ↓upO_none, ↓ev_tmp, ↓ev_const, ↓ev_func, ↓ev_global, init, Nat.reduceEqDiff, Nat.reduceAdd, Nat.reduceMul, Nat.reduceSub, ↓reduceIte, Int.reduceEq, Int.reduceNe, Nat.reduceLeDiff, one, Value.cells, Int.reduceLE, Int.reduceLT, Int.reduceToNat, add_mk, reduceCtorEq, List.mem_range'_1, true_and, and_true, and_false, false_and, Nat.reduceLT, Nat.reduceLeDiff, tyF]
      have hO : OpO w8 (p + 1) (opP 5 (decide (be (s.take 1).1 = 1)) (padTo 7 ((InM.mk (s.take 1).2.rest true).take 7).1)) none 0 := Own.nil _ _ _ _
      have hz8 := j1.blk hz7 (by omega)
      have hI8 := hI7.wr j1 (by omega) (fun a ha => by have := hF a ha; omega)
      have hB8 := butW ((hB5.trans (But.of_more hm6)).trans hbt7) j1 (by omega)
      have hOf : OpO _ (p + 1) (opP 5 (decide (be (s.take 1).1 = 1)) (padTo 7 ((InM.mk (s.take 1).2.rest true).take 7).1)) none 0 := hO
      have l5 := (j2).all_eq 49 (SOp.len (⟨rfl, padTo_len t7, rfl⟩ : SOp.Fit (opP 5 (decide (be (s.take 1).1 = 1)) (padTo 7 ((InM.mk (s.take 1).2.rest true).take 7).1))) _)
      try simp (config := {maxSteps := 1000000}) only [↓zvD, zvU, ↓up_apply, ↓hv_apply, ↓upO_some, ↓upO_none, ↓ev_tmp, ↓ev_const, ↓ev_func, ↓ev_global, init, Nat.reduceEqDiff, Nat.reduceAdd, Nat.reduceMul, Nat.reduceSub, ↓reduceIte, Int.reduceEq, Int.reduceNe, Nat.reduceLeDiff, one, Value.cells, Int.reduceLE, Int.reduceLT, Int.reduceToNat, add_mk, reduceCtorEq, List.mem_range'_1, true_and, and_true, and_false, false_and, Nat.reduceLT, Nat.reduceLeDiff, tyF]
      try simp only [l5]
      try simp (config := {maxSteps := 1000000}) only [↓zvD, zvU, ↓up_apply, ↓hv_apply, ↓upO_some, ↓upO_none, ↓ev_tmp, ↓ev_const, ↓ev_func, ↓ev_global, init, Nat.reduceEqDiff, Nat.reduceAdd, Nat.reduceMul, Nat.reduceSub, ↓reduceIte, Int.reduceEq, Int.reduceNe, Nat.reduceLeDiff, one, Value.cells, Int.reduceLE, Int.reduceLT, Int.reduceToNat, add_mk, reduceCtorEq, List.mem_range'_1, true_and, and_true, and_false, false_and, Nat.reduceLT, Nat.reduceLeDiff, tyF]
      refine st_all hz8 (by simp [SOp.len (⟨rfl, padTo_len t7, rfl⟩ : SOp.Fit (opP 5 (decide (be (s.take 1).1 = 1)) (padTo 7 ((InM.mk (s.take 1).2.rest true).take 7).1)))]) (SOp.len (opZ_fit 0) _) (fun u hu => SOp.one (opP 5 (decide (be (s.take 1).1 = 1)) (padTo 7 ((InM.mk (s.take 1).2.rest true).take 7).1)) (sl := .slice none (opP 5 (decide (be (s.take 1).1 = 1)) (padTo 7 ((InM.mk (s.take 1).2.rest true).take 7).1)).b.length 0) rfl u hu) fun w9 i1 i2 => ?_
      rw [List.toList_toArray] at i2
      have l9 := i2.all_eq 49 (SOp.len (⟨rfl, padTo_len t7, rfl⟩ : SOp.Fit (opP 5 (decide (be (s.take 1).1 = 1)) (padTo 7 ((InM.mk (s.take 1).2.rest true).take 7).1))) _)
      simp (config := {maxSteps := 1000000}) only [↓zvD, zvU, ↓up_apply, ↓hv_apply, ↓upO_some, ↓upO_none, ↓ev_tmp, ↓ev_const, ↓ev_func, ↓ev_global, init, Nat.reduceEqDiff, Nat.reduceAdd, Nat.reduceMul, Nat.reduceSub, ↓reduceIte, Int.reduceEq, Int.reduceNe, Nat.reduceLeDiff, one, Value.cells, Int.reduceLE, Int.reduceLT, Int.reduceToNat, add_mk, reduceCtorEq, List.mem_range'_1, true_and, and_true, and_false, false_and, Nat.reduceLT, Nat.reduceLeDiff, tyF, l9]
      exact ⟨none, 0, rfl, Own.mono (Own.wrLt hOf i1 (by omega)) (by omega), InW.wr hI8 i1 (by omega) (fun a ha => by have := hF a ha; omega), butW hB8 i1 (by omega)⟩
    · rw [if_neg hx]
      simp (config := {maxSteps := 1000000}) only [↓zvD, zvU, ↓up_apply, ↓hv_apply, ↓upO_some, ↓upO_none, ↓ev_tmp, ↓ev_const, ↓ev_func, ↓ev_global, init, Nat.reduceEqDiff, Nat.reduceAdd, Nat.reduceMul, Nat.reduceSub, ↓reduceIte, Int.reduceEq, Int.reduceNe, Nat.reduceLeDiff, one, Value.cells, Int.reduceLE, Int.reduceLT, Int.reduceToNat, add_mk, reduceCtorEq, List.mem_range'_1, true_and, and_true, and_false, false_and, Nat.reduceLT, Nat.reduceLeDiff, tyF, hx]
      refine st_cell hb3 (by rw [SOp.len (opZ_fit 5)]; omega) rfl fun w5 k1 k2 => ?_
      have k3 : Blk w5 p 159 ((opP 5 (decide (be (s.take 1).1 = 1)) (noBytes 7)).cells (.slice none 0 0)) := k2
      have hz5 := k1.blk hz3 (by omega)
      have hI5 := (hI3).wr k1 (by omega) (fun a ha => by have := hF a ha; omega)
      have hB5 := butW hB3 k1 (by omega)
      have s5 := k1.size
      try simp (config := {maxSteps := 1000000}) only [↓zvD, zvU, ↓up_apply, ↓hv_apply, ↓upO_some, ↓upO_none, ↓ev_tmp, ↓ev_const, ↓ev_func, ↓ev_global, init, Nat.reduceEqDiff, Nat.reduceAdd, Nat.reduceMul, Nat.reduceSub, ↓reduceIte, Int.reduceEq, Int.reduceNe, Nat.reduceLeDiff, one, Value.cells, Int.reduceLE, Int.reduceLT, Int.reduceToNat, add_mk, reduceCtorEq, List.mem_range'_1, true_and, and_true, and_false, false_and, Nat.reduceLT, Nat.reduceLeDiff, tyF]
      refine draw_seq q [false, false, false, false, true, true] [[], [0], [0, 1], [], [3], [0, 1, 2, 3, 4]] mixed (by kernel_rfl) (by kernel_rfl) ?_
      intro w6 hm6
      try simp (config := {maxSteps := 1000000}) only [↓zvD, zvU, ↓zqD, ↓sq_nil, ↓sq_cons, ↓sq_guard, ↓sq_true, ↓sq_false, ↓up_apply, ↓hv_apply, ↓upO_some, ↓upO_none, ↓ev_tmp, ↓ev_const, ↓ev_func, ↓ev_global, init, Nat.reduceEqDiff, Nat.reduceAdd, Nat.reduceMul, Nat.reduceSub, ↓reduceIte, Int.reduceEq, Int.reduceNe, Nat.reduceLeDiff, one, Value.cells, Int.reduceLE, Int.reduceLT, Int.reduceToNat, add_mk, reduceCtorEq, List.mem_range'_1, true_and, and_true, and_false, false_and, Nat.reduceLT, Nat.reduceLeDiff, tyF]
      refine call_ok Try.call20 (cur_raw w6 _ q (s.take 1).2 7 (hI5.more hm6) (by first | exact Nat.le_trans r3 hl | (simp only; omega))) ?_
      rintro _ w7 ⟨A7, c7, rfl, ho7, hI7, hbt7⟩
      have s6 := hm6.size
      have hb7 := hbt7.blk (k3.more hm6) (by omega)
      have hz7 := hbt7.blk (hz5.more hm6) (by omega)
      try simp (config := {maxSteps := 1000000}) only [↓zvD, zvU, ↓zqD, ↓sq_nil, ↓sq_cons, ↓sq_guard, ↓sq_true, ↓sq_false, ↓up_apply, ↓hv_apply, ↓upO_some, ↓upO_none, ↓ev_tmp, ↓ev_const, ↓ev_func, ↓ev_global, init, Nat.reduceEqDiff, Nat.reduceAdd, Nat.reduceMul, Nat.reduceSub, ↓reduceIte, Int.reduceEq, Int.reduceNe, Nat.reduceLeDiff, one, Value.cells, Int.reduceLE, Int.reduceLT, Int.reduceToNat, add_mk, reduceCtorEq, List.mem_range'_1, true_and, and_true, and_false, false_and, Nat.reduceLT, Nat.reduceLeDiff, tyF]
      refine ⟨(hm6.mono (by omega)).trans (hbt7.below (Nat.le_refl _) (by omega)), ?_⟩
      try simp (config := {maxSteps := 1000000}) only [↓zvD, zvU, ↓zqD, ↓sq_nil, ↓sq_cons, ↓sq_guard, ↓sq_true, ↓sq_false, ↓up_apply, ↓hv_apply, ↓upO_some, ↓upO_none, ↓ev_tmp, ↓ev_const, ↓ev_func, ↓ev_global, init, Nat.reduceEqDiff, Nat.reduceAdd, Nat.reduceMul, Nat.reduceSub, ↓reduceIte, Int.reduceEq, Int.reduceNe, Nat.reduceLeDiff, one, Value.cells, Int.reduceLE, Int.reduceLT, Int.reduceToNat, add_mk, reduceCtorEq, List.mem_range'_1, true_and, and_true, and_false, false_and, Nat.reduceLT, Nat.reduceLeDiff, tyF]
      have t7 : ((s.take 1).2.take 7).1.length ≤ 7 := by simpa using (s.take 1).2.take_len 7
      refine copy_blk (news := ((s.take 1).2.take 7).1.map byteV) Try.underlying22 cells5 hb7 (Cs.take ho7.cs _) (by simp) (byteV_one _) (by rw [SOp.len (o := opP 5 (decide (be (s.take 1).1 = 1)) (noBytes 7)) ⟨rfl, rfl, rfl⟩]; omega) fun w8 j1 j2 => ?_
      rw [List.take_of_length_le (by simpa using t7), opP_put 5 _ _ t7] at j2
      try simp (config := {maxSteps := 1000000}) only [↓zvD, zvU, ↓zqD, ↓sq_nil, ↓sq_cons, ↓sq_guard, ↓sq_true, ↓sq_false, ↓up_apply, ↓hv_apply, ↓upO_some, ↓upO_none, ↓ev_tmp, ↓ev_const, ↓ev_func, ↓ev_global, init, Nat.reduceEqDiff, Nat.reduceAdd, Nat.reduceMul, Nat.reduceSub, ↓reduceIte, Int.reduceEq, Int.reduceNe, Nat.reduceLeDiff, one, Value.cells, Int.reduceLE, Int.reduceLT, Int.reduceToNat, add_mk, reduceCtorEq, List.mem_range'_1, true_and, and_true, and_false, false_and, Nat.reduceLT, Nat.reduceLeDiff, tyF]
      refine ⟨j1.below ((hm6.mono (by omega)).trans (hbt7.below (Nat.le_refl _) (by omega))) (by omega), ?_⟩
      try simp (config := {maxSteps := 1000000}) only [↓zvD, zvU, ↓zqD, ↓sq_nil, ↓sq_cons, ↓sq_guard, ↓sq_true, ↓sq_false, ↓up_apply, ↓hv_apply, ↓upO_some, ↓upO_none, ↓ev_tmp, ↓ev_const, ↓ev_func, ↓ev_global, init, Nat.reduceEqDiff, Nat.reduceAdd, Nat.reduceMul, Nat.reduceSub, ↓reduceIte, Int.reduceEq, Int.reduceNe, Nat.reduceLeDiff, one, Value.cells, Int.reduceLE, Int.reduceLT, Int.reduceToNat, add_mk, reduceCtorEq, List.mem_range'_1, true_and, and_true, and_false, false_and, Nat.reduceLT, Nat.reduceLeDiff, tyF]
      have hO : OpO w8 (p + 1) (opP 5 (decide (be (s.take 1).1 = 1)) (padTo 7 ((s.take 1).2.take 7).1)) none 0 := Own.nil _ _ _ _
      have hz8 := j1.blk hz7 (by omega)
      have hI8 := hI7.wr j1 (by omega) (fun a ha => by have := hF a ha; omega)
      have hB8 := butW ((hB5.trans (But.of_more hm6)).trans hbt7) j1 (by omega)
      have hOf : OpO _ (p + 1) (opP 5 (decide (be (s.take 1).1 = 1)) (padTo 7 ((s.take 1).2.take 7).1)) none 0 := hO
      have l5 := (j2).all_eq 49 (SOp.len (⟨rfl, padTo_len t7, rfl⟩ : SOp.Fit (opP 5 (decide (be (s.take 1).1 = 1)) (padTo 7 ((s.take 1).2.take 7).1))) _)
      try simp (config := {maxSteps := 1000000}) only [↓zvD, zvU, ↓up_apply, ↓hv_apply, ↓upO_some, ↓upO_none, ↓ev_tmp, ↓ev_const, ↓ev_func, ↓ev_global, init, Nat.reduceEqDiff, Nat.reduceAdd, Nat.reduceMul, Nat.reduceSub, ↓reduceIte, Int.reduceEq, Int.reduceNe, Nat.reduceLeDiff, one, Value.cells, Int.reduceLE, Int.reduceLT, Int.reduceToNat, add_mk, reduceCtorEq, List.mem_range'_1, true_and, and_true, and_false, false_and, Nat.reduceLT, Nat.reduceLeDiff, tyF]
      try simp only [l5]
      try simp (config := {maxSteps := 1000000}) only [↓zvD, zvU, ↓up_apply, ↓hv_apply, ↓upO_some, ↓upO_none, ↓ev_tmp, ↓ev_const, ↓ev_func, ↓ev_global, init, Nat.reduceEqDiff, Nat.reduceAdd, Nat.reduceMul, Nat.reduceSub, ↓reduceIte, Int.reduceEq, Int.reduceNe, Nat.reduceLeDiff, one, Value.cells, Int.reduceLE, Int.reduceLT, Int.reduceToNat, add_mk, reduceCtorEq, List.mem_range'_1, true_and, and_true, and_false, false_and, Nat.reduceLT, Nat.reduceLeDiff, tyF]
      refine st_all hz8 (by simp [SOp.len (⟨rfl, padTo_len t7, rfl⟩ : SOp.Fit (opP 5 (decide (be (s.take 1).1 = 1)) (padTo 7 ((s.take 1).2.take 7).1)))]) (SOp.len (opZ_fit 0) _) (fun u hu => SOp.one (opP 5 (decide (be (s.take 1).1 = 1)) (padTo 7 ((s.take 1).2.take 7).1)) (sl := .slice none (opP 5 (decide (be (s.take 1).1 = 1)) (padTo 7 ((s.take 1).2.take 7).1)).b.length 0) rfl u hu) fun w9 i1 i2 => ?_
      rw [List.toList_toArray] at i2
      have l9 := i2.all_eq 49 (SOp.len (⟨rfl, padTo_len t7, rfl⟩ : SOp.Fit (opP 5 (decide (be (s.take 1).1 = 1)) (padTo 7 ((s.take 1).2.take 7).1))) _)
      simp (config := {maxSteps := 1000000}) only [↓zvD, zvU, ↓up_apply, ↓hv_apply, ↓upO_some, ↓upO_none, ↓ev_tmp, ↓ev_const, ↓ev_func, ↓ev_global, init, Nat.reduceEqDiff, Nat.reduceAdd, Nat.reduceMul, Nat.reduceSub, ↓reduceIte, Int.reduceEq, Int.reduceNe, Nat.reduceLeDiff, one, Value.cells, Int.reduceLE, Int.reduceLT, Int.reduceToNat, add_mk, reduceCtorEq, List.mem_range'_1, true_and, and_true, and_false, false_and, Nat.reduceLT, Nat.reduceLeDiff, tyF, l9]
      exact ⟨none, 0, rfl, Own.mono (Own.wrLt hOf i1 (by omega)) (by omega), InW.wr hI8 i1 (by omega) (fun a ha => by have := hF a ha; omega), butW hB8 i1 (by omega)⟩
  rw [if_neg h5]
  by_cases h7 : k = 7
  · rw [if_pos h7]
    subst h7
    simp (config := {maxSteps := 1000000}) only [↓zvD, zvU, ↓up_apply, ↓hv_apply, ↓upO_some, ↓upO_none, ↓ev_tmp, ↓ev_const, ↓ev_func, ↓ev_global, init, Nat.reduceEqDiff, Nat.reduceAdd, Nat.reduceMul, Nat.reduceSub, ↓reduceIte, Int.reduceEq, Int.reduceNe, Nat.reduceLeDiff, one, Value.cells, Int.reduceLE, Int.reduceLT, Int.reduceToNat, add_mk, reduceCtorEq, List.mem_range'_1, true_and, and_true, and_false, false_and, Nat.reduceLT, Nat.reduceLeDiff, tyF]
    refine call_ok Try.call20 (cur_raw w2 _ q s 160 hI2 hl) ?_
    rintro _ w3 ⟨A3, c3, rfl, ho3, hI3, hbt3⟩
    have t3 : (s.take 160).1.length ≤ 160 := by simpa using s.take_len 160
    have hb3 := hbt3.blk hb2 (by omega)
    have hz3 := hbt3.blk hz2 (by omega)
    have hB3 := (But.of_more hm2).trans hbt3
    have l3 := hb3.lt
    simp (config := {maxSteps := 1000000}) only [↓zvD, zvU, ↓up_apply, ↓hv_apply, ↓upO_some, ↓upO_none, ↓ev_tmp, ↓ev_const, ↓ev_func, ↓ev_global, init, Nat.reduceEqDiff, Nat.reduceAdd, Nat.reduceMul, Nat.reduceSub, ↓reduceIte, Int.reduceEq, Int.reduceNe, Nat.reduceLeDiff, one, Value.cells, Int.reduceLE, Int.reduceLT, Int.reduceToNat, add_mk, reduceCtorEq, List.mem_range'_1, true_and, and_true, and_false, false_and, Nat.reduceLT, Nat.reduceLeDiff, tyF]
    refine call_ok Try.call110 (config_decode w3 A3 _ c3 ho3.cs (by omega)) ?_
    rintro _ w4 ⟨rfl, hm4⟩
    have hm5 := more_alloc w4 (.cells (ints z20).toArray 157)
    have hb5 := Blk.new w4 157 (ints z20).toArray
    have s5 := size_alloc w4 (.cells (ints z20).toArray 157)
    simp (config := {maxSteps := 1000000}) only [↓zvD, zvU, ↓up_apply, ↓hv_apply, ↓upO_some, ↓upO_none, ↓ev_tmp, ↓ev_const, ↓ev_func, ↓ev_global, init, Nat.reduceEqDiff, Nat.reduceAdd, Nat.reduceMul, Nat.reduceSub, ↓reduceIte, Int.reduceEq, Int.reduceNe, Nat.reduceLeDiff, one, Value.cells, Int.reduceLE, Int.reduceLT, Int.reduceToNat, add_mk, reduceCtorEq, List.mem_range'_1, true_and, and_true, and_false, false_and, Nat.reduceLT, Nat.reduceLeDiff, tyF, zerCfg]
    generalize w4.alloc (.cells (ints z20).toArray 157) = w5 at hm5 hb5 s5 ⊢
    rw [List.toList_toArray] at hb5
    have s4 := hm4.size
    have dl := decC_len (s.take 160).1
    refine st_all hb5 (by simp [ints_len, dl]) (by rw [ints_len]; rfl) (ints_one _) fun w6 j1 j2 => ?_
    rw [List.toList_toArray] at j2
    have hI6 := ((hI3.more hm4).more hm5).wr j1 (by omega) (fun a ha => by have := hF a ha; omega)
    have hb6 := j1.blk ((hb3.more hm4).more hm5) (by omega)
    have hz6 := j1.blk ((hz3.more hm4).more hm5) (by omega)
    have hB6 := butW ((hB3.trans (But.of_more hm4)).trans (But.of_more hm5)) j1 (by omega)
    have l6 := j2.all_eq 20 (by rw [ints_len, dl])
    have n6 : w4.heap.size ≠ q := by omega
    refine ⟨fun he => ?_, fun he => ?_⟩
    · rw [if_pos he]
      try simp (config := {maxSteps := 1000000}) only [↓zvD, zvU, ↓up_apply, ↓hv_apply, ↓upO_some, ↓upO_none, ↓ev_tmp, ↓ev_const, ↓ev_func, ↓ev_global, init, Nat.reduceEqDiff, Nat.reduceAdd, Nat.reduceMul, Nat.reduceSub, ↓reduceIte, Int.reduceEq, Int.reduceNe, Nat.reduceLeDiff, one, Value.cells, Int.reduceLE, Int.reduceLT, Int.reduceToNat, add_mk, reduceCtorEq, List.mem_range'_1, true_and, and_true, and_false, false_and, Nat.reduceLT, Nat.reduceLeDiff, tyF]
      try simp only [l6]
      try simp (config := {maxSteps := 1000000}) only [↓zvD, zvU, ↓up_apply, ↓hv_apply, ↓upO_some, ↓upO_none, ↓ev_tmp, ↓ev_const, ↓ev_func, ↓ev_global, init, Nat.reduceEqDiff, Nat.reduceAdd, Nat.reduceMul, Nat.reduceSub, ↓reduceIte, Int.reduceEq, Int.reduceNe, Nat.reduceLeDiff, one, Value.cells, Int.reduceLE, Int.reduceLT, Int.reduceToNat, add_mk, reduceCtorEq, List.mem_range'_1, true_and, and_true, and_false, false_and, Nat.reduceLT, Nat.reduceLeDiff, tyF]
      refine st_row hb6 (by simp [ints_len, dl]) (by rw [SOp.len (opZ_fit 7)]; omega) (ints_one _) fun w8 k1 k2 => ?_
      rw [List.toList_toArray, SOp.setCfg (opZ_fit 7) _ dl] at k2
      have k3 : Blk w8 p 159 ((opC 7 (decC (s.take 160).1).1).cells (.slice none 0 0)) := k2
      have hz8 := k1.blk hz6 (by omega)
      have hI8 := InW.wr hI6 k1 (by omega) (fun a ha => by have := hF a ha; omega)
      have hB8 := butW hB6 k1 (by omega)
      have hO : OpO w8 (p + 1) (opC 7 (decC (s.take 160).1).1) none 0 := Own.nil _ _ _ _
      have hOf : OpO _ (p + 1) (opC 7 (decC (s.take 160).1).1) none 0 := hO
      have l5 := (k3).all_eq 49 (SOp.len (⟨rfl, rfl, dl⟩ : SOp.Fit (opC 7 (decC (s.take 160).1).1)) _)
      try simp (config := {maxSteps := 1000000}) only [↓zvD, zvU, ↓up_apply, ↓hv_apply, ↓upO_some, ↓upO_none, ↓ev_tmp, ↓ev_const, ↓ev_func, ↓ev_global, init, Nat.reduceEqDiff, Nat.reduceAdd, Nat.reduceMul, Nat.reduceSub, ↓reduceIte, Int.reduceEq, Int.reduceNe, Nat.reduceLeDiff, one, Value.cells, Int.reduceLE, Int.reduceLT, Int.reduceToNat, add_mk, reduceCtorEq, List.mem_range'_1, true_and, and_true, and_false, false_and, Nat.reduceLT, Nat.reduceLeDiff, tyF]
      try simp only [l5]
      try simp (config := {maxSteps := 1000000}) only [↓zvD, zvU, ↓up_apply, ↓hv_apply, ↓upO_some, ↓upO_none, ↓ev_tmp, ↓ev_const, ↓ev_func, ↓ev_global, init, Nat.reduceEqDiff, Nat.reduceAdd, Nat.reduceMul, Nat.reduceSub, ↓reduceIte, Int.reduceEq, Int.reduceNe, Nat.reduceLeDiff, one, Value.cells, Int.reduceLE, Int.reduceLT, Int.reduceToNat, add_mk, reduceCtorEq, List.mem_range'_1, true_and, and_true, and_false, false_and, Nat.reduceLT, Nat.reduceLeDiff, tyF]
      refine st_all hz8 (by simp [SOp.len (⟨rfl, rfl, dl⟩ : SOp.Fit (opC 7 (decC (s.take 160).1).1))]) (SOp.len (opZ_fit 0) _) (fun u hu => SOp.one (opC 7 (decC (s.take 160).1).1) (sl := .slice none (opC 7 (decC (s.take 160).1).1).b.length 0) rfl u hu) fun w9 i1 i2 => ?_
      rw [List.toList_toArray] at i2
      have l9 := i2.all_eq 49 (SOp.len (⟨rfl, rfl, dl⟩ : SOp.Fit (opC 7 (decC (s.take 160).1).1)) _)
      simp (config := {maxSteps := 1000000}) only [↓zvD, zvU, ↓up_apply, ↓hv_apply, ↓upO_some, ↓upO_none, ↓ev_tmp, ↓ev_const, ↓ev_func, ↓ev_global, init, Nat.reduceEqDiff, Nat.reduceAdd, Nat.reduceMul, Nat.reduceSub, ↓reduceIte, Int.reduceEq, Int.reduceNe, Nat.reduceLeDiff, one, Value.cells, Int.reduceLE, Int.reduceLT, Int.reduceToNat, add_mk, reduceCtorEq, List.mem_range'_1, true_and, and_true, and_false, false_and, Nat.reduceLT, Nat.reduceLeDiff, tyF, l9]
      exact ⟨none, 0, rfl, Own.mono (Own.wrLt hOf i1 (by omega)) (by omega), InW.wr hI8 i1 (by omega) (fun a ha => by have := hF a ha; omega), butW hB8 i1 (by omega)⟩
    · rw [if_neg he]
      refine call_ok Try.call33 (cur_fail w6 _ q _ hI6) ?_
      rintro _ w7 ⟨rfl, hI7, hbt7⟩
      have hb7 := hbt7.blk hb6 (by omega)
      have hz7 := hbt7.blk hz6 (by omega)
      have hB7 := hB6.trans hbt7
      have l7 := (hbt7.blk j2 n6).all_eq 20 (by rw [ints_len, dl])
      try simp (config := {maxSteps := 1000000}) only [↓zvD, zvU, ↓up_apply, ↓hv_apply, ↓upO_some, ↓upO_none, ↓ev_tmp, ↓ev_const, ↓ev_func, ↓ev_global, init, Nat.reduceEqDiff, Nat.reduceAdd, Nat.reduceMul, Nat.reduceSub, ↓reduceIte, Int.reduceEq, Int.reduceNe, Nat.reduceLeDiff, one, Value.cells, Int.reduceLE, Int.reduceLT, Int.reduceToNat, add_mk, reduceCtorEq, List.mem_range'_1, true_and, and_true, and_false, false_and, Nat.reduceLT, Nat.reduceLeDiff, tyF]
      try simp (config := {maxSteps := 1000000}) only [↓zvD, zvU, ↓up_apply, ↓hv_apply, ↓upO_some, ↓upO_none, ↓ev_tmp, ↓ev_const, ↓ev_func, ↓ev_global, init, Nat.reduceEqDiff, Nat.reduceAdd, Nat.reduceMul, Nat.reduceSub, ↓reduceIte, Int.reduceEq, Int.reduceNe, Nat.reduceLeDiff, one, Value.cells, Int.reduceLE, Int.reduceLT, Int.reduceToNat, add_mk, reduceCtorEq, List.mem_range'_1, true_and, and_true, and_false, false_and, Nat.reduceLT, Nat.reduceLeDiff, tyF]
      try simp only [l7]
      try simp (config := {maxSteps := 1000000}) only [↓zvD, zvU, ↓up_apply, ↓hv_apply, ↓upO_some, ↓upO_none, ↓ev_tmp, ↓ev_const, ↓ev_func, ↓ev_global, init, Nat.reduceEqDiff, Nat.reduceAdd, Nat.reduceMul, Nat.reduceSub, ↓reduceIte, Int.reduceEq, Int.reduceNe, Nat.reduceLeDiff, one, Value.cells, Int.reduceLE, Int.reduceLT, Int.reduceToNat, add_mk, reduceCtorEq, List.mem_range'_1, true_and, and_true, and_false, false_and, Nat.reduceLT, Nat.reduceLeDiff, tyF]
      refine st_row hb7 (by simp [ints_len, dl]) (by rw [SOp.len (opZ_fit 7)]; omega) (ints_one _) fun w8 k1 k2 => ?_
      rw [List.toList_toArray, SOp.setCfg (opZ_fit 7) _ dl] at k2
      have k3 : Blk w8 p 159 ((opC 7 (decC (s.take 160).1).1).cells (.slice none 0 0)) := k2
      have hz8 := k1.blk hz7 (by omega)
      have hI8 := InW.wr hI7 k1 (by omega) (fun a ha => by have := hF a ha; omega)
      have hB8 := butW hB7 k1 (by omega)
      have hO : OpO w8 (p + 1) (opC 7 (decC (s.take 160).1).1) none 0 := Own.nil _ _ _ _
      have hOf : OpO _ (p + 1) (opC 7 (decC (s.take 160).1).1) none 0 := hO
      have l5 := (k3).all_eq 49 (SOp.len (⟨rfl, rfl, dl⟩ : SOp.Fit (opC 7 (decC (s.take 160).1).1)) _)
      try simp (config := {maxSteps := 1000000}) only [↓zvD, zvU, ↓up_apply, ↓hv_apply, ↓upO_some, ↓upO_none, ↓ev_tmp, ↓ev_const, ↓ev_func, ↓ev_global, init, Nat.reduceEqDiff, Nat.reduceAdd, Nat.reduceMul, Nat.reduceSub, ↓reduceIte, Int.reduceEq, Int.reduceNe, Nat.reduceLeDiff, one, Value.cells, Int.reduceLE, Int.reduceLT, Int.reduceToNat, add_mk, reduceCtorEq, List.mem_range'_1, true_and, and_true, and_false, false_and, Nat.reduceLT, Nat.reduceLeDiff, tyF]
      try simp only [l5]
      try simp (config := {maxSteps := 1000000}) only [↓zvD, zvU, ↓up_apply, ↓hv_apply, ↓upO_some, ↓upO_none, ↓ev_tmp, ↓ev_const, ↓ev_func, ↓ev_global, init, Nat.reduceEqDiff, Nat.reduceAdd, Nat.reduceMul, Nat.reduceSub, ↓reduceIte, Int.reduceEq, Int.reduceNe, Nat.reduceLeDiff, one, Value.cells, Int.reduceLE, Int.reduceLT, Int.reduceToNat, add_mk, reduceCtorEq, List.mem_range'_1, true_and, and_true, and_false, false_and, Nat.reduceLT, Nat.reduceLeDiff, tyF]
      refine st_all hz8 (by simp [SOp.len (⟨rfl, rfl, dl⟩ : SOp.Fit (opC 7 (decC (s.take 160).1).1))]) (SOp.len (opZ_fit 0) _) (fun u hu => SOp.one (opC 7 (decC (s.take 160).1).1) (sl := .slice none (opC 7 (decC (s.take 160).1).1).b.length 0) rfl u hu) fun w9 i1 i2 => ?_
      rw [List.toList_toArray] at i2
      have l9 := i2.all_eq 49 (SOp.len (⟨rfl, rfl, dl⟩ : SOp.Fit (opC 7 (decC (s.take 160).1).1)) _)
      simp (config := {maxSteps := 1000000}) only [↓zvD, zvU, ↓up_apply, ↓hv_apply, ↓upO_some, ↓upO_none, ↓ev_tmp, ↓ev_const, ↓ev_func, ↓ev_global, init, Nat.reduceEqDiff, Nat.reduceAdd, Nat.reduceMul, Nat.reduceSub, ↓reduceIte, Int.reduceEq, Int.reduceNe, Nat.reduceLeDiff, one, Value.cells, Int.reduceLE, Int.reduceLT, Int.reduceToNat, add_mk, reduceCtorEq, List.mem_range'_1, true_and, and_true, and_false, false_and, Nat.reduceLT, Nat.reduceLeDiff, tyF, l9]
      exact ⟨none, 0, rfl, Own.mono (Own.wrLt hOf i1 (by omega)) (by omega), InW.wr hI8 i1 (by omega) (fun a ha => by have := hF a ha; omega), butW hB8 i1 (by omega)⟩
  rw [if_neg h7]
  by_cases h3 : k = 3 ∨ k = 6 ∨ k = 8
  · rw [if_pos h3]
    have hO : OpO w2 (p + 1) (opZ k) none 0 := Own.nil _ _ _ _
    rcases h3 with rfl | rfl | rfl
    · simp (config := {maxSteps := 1000000}) only [↓zvD, zvU, ↓up_apply, ↓hv_apply, ↓upO_some, ↓upO_none, ↓ev_tmp, ↓ev_const, ↓ev_func, ↓ev_global, init, Nat.reduceEqDiff, Nat.reduceAdd, Nat.reduceMul, Nat.reduceSub, ↓reduceIte, Int.reduceEq, Int.reduceNe, Nat.reduceLeDiff, one, Value.cells, Int.reduceLE, Int.reduceLT, Int.reduceToNat, add_mk, reduceCtorEq, List.mem_range'_1, true_and, and_true, and_false, false_and, Nat.reduceLT, Nat.reduceLeDiff, tyF]
      have hOf : OpO _ (p + 1) (opZ 3) none 0 := hO
      have l5 := (hb2).all_eq 49 (SOp.len (opZ_fit 3) _)
      try simp (config := {maxSteps := 1000000}) only [↓zvD, zvU, ↓up_apply, ↓hv_apply, ↓upO_some, ↓upO_none, ↓ev_tmp, ↓ev_const, ↓ev_func, ↓ev_global, init, Nat.reduceEqDiff, Nat.reduceAdd, Nat.reduceMul, Nat.reduceSub, ↓reduceIte, Int.reduceEq, Int.reduceNe, Nat.reduceLeDiff, one, Value.cells, Int.reduceLE, Int.reduceLT, Int.reduceToNat, add_mk, reduceCtorEq, List.mem_range'_1, true_and, and_true, and_false, false_and, Nat.reduceLT, Nat.reduceLeDiff, tyF]
      try simp only [l5]
      try simp (config := {maxSteps := 1000000}) only [↓zvD, zvU, ↓up_apply, ↓hv_apply, ↓upO_some, ↓upO_none, ↓ev_tmp, ↓ev_const, ↓ev_func, ↓ev_global, init, Nat.reduceEqDiff, Nat.reduceAdd, Nat.reduceMul, Nat.reduceSub, ↓reduceIte, Int.reduceEq, Int.reduceNe, Nat.reduceLeDiff, one, Value.cells, Int.reduceLE, Int.reduceLT, Int.reduceToNat, add_mk, reduceCtorEq, List.mem_range'_1, true_and, and_true, and_false, false_and, Nat.reduceLT, Nat.reduceLeDiff, tyF]
      refine st_all hz2 (by simp [SOp.len (opZ_fit 3)]) (SOp.len (opZ_fit 0) _) (fun u hu => SOp.one (opZ 3) (sl := .slice none (opZ 3).b.length 0) rfl u hu) fun w9 i1 i2 => ?_
      rw [List.toList_toArray] at i2
      have l9 := i2.all_eq 49 (SOp.len (opZ_fit 3) _)
      simp (config := {maxSteps := 1000000}) only [↓zvD, zvU, ↓up_apply, ↓hv_apply, ↓upO_some, ↓upO_none, ↓ev_tmp, ↓ev_const, ↓ev_func, ↓ev_global, init, Nat.reduceEqDiff, Nat.reduceAdd, Nat.reduceMul, Nat.reduceSub, ↓reduceIte, Int.reduceEq, Int.reduceNe, Nat.reduceLeDiff, one, Value.cells, Int.reduceLE, Int.reduceLT, Int.reduceToNat, add_mk, reduceCtorEq, List.mem_range'_1, true_and, and_true, and_false, false_and, Nat.reduceLT, Nat.reduceLeDiff, tyF, l9]
      exact ⟨none, 0, rfl, Own.mono (Own.wrLt hOf i1 (by omega)) (by omega), InW.wr hI2 i1 (by omega) (fun a ha => by have := hF a ha; omega), butW (But.of_more hm2) i1 (by omega)⟩
    · simp (config := {maxSteps := 1000000}) only [↓zvD, zvU, ↓up_apply, ↓hv_apply, ↓upO_some, ↓upO_none, ↓ev_tmp, ↓ev_const, ↓ev_func, ↓ev_global, init, Nat.reduceEqDiff, Nat.reduceAdd, Nat.reduceMul, Nat.reduceSub, ↓reduceIte, Int.reduceEq, Int.reduceNe, Nat.reduceLeDiff, one, Value.cells, Int.reduceLE, Int.reduceLT, Int.reduceToNat, add_mk, reduceCtorEq, List.mem_range'_1, true_and, and_true, and_false, false_and, Nat.reduceLT, Nat.reduceLeDiff, tyF]
      have hOf : OpO _ (p + 1) (opZ 6) none 0 := hO
      have l5 := (hb2).all_eq 49 (SOp.len (opZ_fit 6) _)
      try simp (config := {maxSteps := 1000000}) only [↓zvD, zvU, ↓up_apply, ↓hv_apply, ↓upO_some, ↓upO_none, ↓ev_tmp, ↓ev_const, ↓ev_func, ↓ev_global, init, Nat.reduceEqDiff, Nat.reduceAdd, Nat.reduceMul, Nat.reduceSub, ↓reduceIte, Int.reduceEq, Int.reduceNe, Nat.reduceLeDiff, one, Value.cells, Int.reduceLE, Int.reduceLT, Int.reduceToNat, add_mk, reduceCtorEq, List.mem_range'_1, true_and, and_true, and_false, false_and, Nat.reduceLT, Nat.reduceLeDiff, tyF]
      try simp only [l5]
      try simp (config := {maxSteps := 1000000}) only [↓zvD, zvU, ↓up_apply, ↓hv_apply, ↓upO_some, ↓upO_none, ↓ev_tmp, ↓ev_const, ↓ev_func, ↓ev_global, init, Nat.reduceEqDiff, Nat.reduceAdd, Nat.reduceMul, Nat.reduceSub, ↓reduceIte, Int.reduceEq, Int.reduceNe, Nat.reduceLeDiff, one, Value.cells, Int.reduceLE, Int.reduceLT, Int.reduceToNat, add_mk, reduceCtorEq, List.mem_range'_1, true_and, and_true, and_false, false_and, Nat.reduceLT, Nat.reduceLeDiff, tyF]
      refine st_all hz2 (by simp [SOp.len (opZ_fit 6)]) (SOp.len (opZ_fit 0) _) (fun u hu => SOp.one (opZ 6) (sl := .slice none (opZ 6).b.length 0) rfl u hu) fun w9 i1 i2 => ?_
      rw [List.toList_toArray] at i2
      have l9 := i2.all_eq 49 (SOp.len (opZ_fit 6) _)
      simp (config := {maxSteps := 1000000}) only [↓zvD, zvU, ↓up_apply, ↓hv_apply, ↓upO_some, ↓upO_none, ↓ev_tmp, ↓ev_const, ↓ev_func, ↓ev_global, init, Nat.reduceEqDiff, Nat.reduceAdd, Nat.reduceMul, Nat.reduceSub, ↓reduceIte, Int.reduceEq, Int.reduceNe, Nat.reduceLeDiff, one, Value.cells, Int.reduceLE, Int.reduceLT, Int.reduceToNat, add_mk, reduceCtorEq, List.mem_range'_1, true_and, and_true, and_false, false_and, Nat.reduceLT, Nat.reduceLeDiff, tyF, l9]
      exact ⟨none, 0, rfl, Own.mono (Own.wrLt hOf i1 (by omega)) (by omega), InW.wr hI2 i1 (by omega) (fun a ha => by have := hF a ha; omega), butW (But.of_more hm2) i1 (by omega)⟩
    · simp (config := {maxSteps := 1000000}) only [↓zvD, zvU, ↓up_apply, ↓hv_apply, ↓upO_some, ↓upO_none, ↓ev_tmp, ↓ev_const, ↓ev_func, ↓ev_global, init, Nat.reduceEqDiff, Nat.reduceAdd, Nat.reduceMul, Nat.reduceSub, ↓reduceIte, Int.reduceEq, Int.reduceNe, Nat.reduceLeDiff, one, Value.cells, Int.reduceLE, Int.reduceLT, Int.reduceToNat, add_mk, reduceCtorEq, List.mem_range'_1, true_and, and_true, and_false, false_and, Nat.reduceLT, Nat.reduceLeDiff, tyF]
      have hOf : OpO _ (p + 1) (opZ 8) none 0 := hO
      have l5 := (hb2).all_eq 49 (SOp.len (opZ_fit 8) _)
      try simp (config := {maxSteps := 1000000}) only [↓zvD, zvU, ↓up_apply, ↓hv_apply, ↓upO_some, ↓upO_none, ↓ev_tmp, ↓ev_const, ↓ev_func, ↓ev_global, init, Nat.reduceEqDiff, Nat.reduceAdd, Nat.reduceMul, Nat.reduceSub, ↓reduceIte, Int.reduceEq, Int.reduceNe, Nat.reduceLeDiff, one, Value.cells, Int.reduceLE, Int.reduceLT, Int.reduceToNat, add_mk, reduceCtorEq, List.mem_range'_1, true_and, and_true, and_false, false_and, Nat.reduceLT, Nat.reduceLeDiff, tyF]
      try simp only [l5]
      try simp (config := {maxSteps := 1000000}) only [↓zvD, zvU, ↓up_apply, ↓hv_apply, ↓upO_some, ↓upO_none, ↓ev_tmp, ↓ev_const, ↓ev_func, ↓ev_global, init, Nat.reduceEqDiff, Nat.reduceAdd, Nat.reduceMul, Nat.reduceSub, ↓reduceIte, Int.reduceEq, Int.reduceNe, Nat.reduceLeDiff, one, Value.cells, Int.reduceLE, Int.reduceLT, Int.reduceToNat, add_mk, reduceCtorEq, List.mem_range'_1, true_and, and_true, and_false, false_and, Nat.reduceLT, Nat.reduceLeDiff, tyF]
      refine st_all hz2 (by simp [SOp.len (opZ_fit 8)]) (SOp.len (opZ_fit 0) _) (fun u hu => SOp.one (opZ 8) (sl := .slice none (opZ 8).b.length 0) rfl u hu) fun w9 i1 i2 => ?_
      rw [List.toList_toArray] at i2
      have l9 := i2.all_eq 49 (SOp.len (opZ_fit 8) _)
      simp (config := {maxSteps := 1000000}) only [↓zvD, zvU, ↓up_apply, ↓hv_apply, ↓upO_some, ↓upO_none, ↓ev_tmp, ↓ev_const, ↓ev_func, ↓ev_global, init, Nat.reduceEqDiff, Nat.reduceAdd, Nat.reduceMul, Nat.reduceSub, ↓reduceIte, Int.reduceEq, Int.reduceNe, Nat.reduceLeDiff, one, Value.cells, Int.reduceLE, Int.reduceLT, Int.reduceToNat, add_mk, reduceCtorEq, List.mem_range'_1, true_and, and_true, and_false, false_and, Nat.reduceLT, Nat.reduceLeDiff, tyF, l9]
      exact ⟨none, 0, rfl, Own.mono (Own.wrLt hOf i1 (by omega)) (by omega), InW.wr hI2 i1 (by omega) (fun a ha => by have := hF a ha; omega), butW (But.of_more hm2) i1 (by omega)⟩
  · rw [if_neg h3]
    have h3a : ¬ k = 3 := fun h => h3 (.inl h)
    have h3b : ¬ k = 6 := fun h => h3 (.inr (.inl h))
    have h3c : ¬ k = 8 := fun h => h3 (.inr (.inr h))
    simp (config := {maxSteps := 1000000}) only [↓zvD, zvU, ↓up_apply, ↓hv_apply, ↓upO_some, ↓upO_none, ↓ev_tmp, ↓ev_const, ↓ev_func, ↓ev_global, init, Nat.reduceEqDiff, Nat.reduceAdd, Nat.reduceMul, Nat.reduceSub, ↓reduceIte, Int.reduceEq, Int.reduceNe, Nat.reduceLeDiff, one, Value.cells, Int.reduceLE, Int.reduceLT, Int.reduceToNat, add_mk, reduceCtorEq, List.mem_range'_1, true_and, and_true, and_false, false_and, Nat.reduceLT, Nat.reduceLeDiff, tyF, h1, h2, h4, h5, h7, h3a, h3b, h3c]
    refine call_ok Try.call33 (cur_fail w2 _ q _ hI2) ?_
    rintro _ w3 ⟨rfl, hI3, hbt3⟩
    have hO : OpO w3 (p + 1) (opZ k) none 0 := Own.nil _ _ _ _
    have hb3 := hbt3.blk hb2 (by omega)
    have hz3 := hbt3.blk hz2 (by omega)
    have hB3 := (But.of_more hm2).trans hbt3
    have hOf : OpO _ (p + 1) (opZ k) none 0 := hO
    have l5 := (hb3).all_eq 49 (SOp.len (opZ_fit k) _)
    try simp (config := {maxSteps := 1000000}) only [↓zvD, zvU, ↓up_apply, ↓hv_apply, ↓upO_some, ↓upO_none, ↓ev_tmp, ↓ev_const, ↓ev_func, ↓ev_global, init, Nat.reduceEqDiff, Nat.reduceAdd, Nat.reduceMul, Nat.reduceSub, ↓reduceIte, Int.reduceEq, Int.reduceNe, Nat.reduceLeDiff, one, Value.cells, Int.reduceLE, Int.reduceLT, Int.reduceToNat, add_mk, reduceCtorEq, List.mem_range'_1, true_and, and_true, and_false, false_and, Nat.reduceLT, Nat.reduceLeDiff, tyF]
    try simp only [l5]
    try simp (config := {maxSteps := 1000000}) only [↓zvD, zvU, ↓up_apply, ↓hv_apply, ↓upO_some, ↓upO_none, ↓ev_tmp, ↓ev_const, ↓ev_func, ↓ev_global, init, Nat.reduceEqDiff, Nat.reduceAdd, Nat.reduceMul, Nat.reduceSub, ↓reduceIte, Int.reduceEq, Int.reduceNe, Nat.reduceLeDiff, one, Value.cells, Int.reduceLE, Int.reduceLT, Int.reduceToNat, add_mk, reduceCtorEq, List.mem_range'_1, true_and, and_true, and_false, false_and, Nat.reduceLT, Nat.reduceLeDiff, tyF]
    refine st_all hz3 (by simp [SOp.len (opZ_fit k)]) (SOp.len (opZ_fit 0) _) (fun u hu => SOp.one (opZ k) (sl := .slice none (opZ k).b.length 0) rfl u hu) fun w9 i1 i2 => ?_
    rw [List.toList_toArray] at i2
    have l9 := i2.all_eq 49 (SOp.len (opZ_fit k) _)
    simp (config := {maxSteps := 1000000}) only [↓zvD, zvU, ↓up_apply, ↓hv_apply, ↓upO_some, ↓upO_none, ↓ev_tmp, ↓ev_const, ↓ev_func, ↓ev_global, init, Nat.reduceEqDiff, Nat.reduceAdd, Nat.reduceMul, Nat.reduceSub, ↓reduceIte, Int.reduceEq, Int.reduceNe, Nat.reduceLeDiff, one, Value.cells, Int.reduceLE, Int.reduceLT, Int.reduceToNat, add_mk, reduceCtorEq, List.mem_range'_1, true_and, and_true, and_false, false_and, Nat.reduceLT, Nat.reduceLeDiff, tyF, l9]
    exact ⟨none, 0, rfl, Own.mono (Own.wrLt hOf i1 (by omega)) (by omega), InW.wr hI3 i1 (by omega) (fun a ha => by have := hF a ha; omega), butW hB3 i1 (by omega)⟩
end Go.Proofs.Ytloiglnejffmkaa
