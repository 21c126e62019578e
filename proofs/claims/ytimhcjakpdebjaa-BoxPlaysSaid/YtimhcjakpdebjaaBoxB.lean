/-
  Layer 22: the box's operations.
-/
import Derived.Test.YtimhcjakpdebjaaBoxA
namespace Go.Proofs.Ytimhcjakpdebjaa
open Go Go.RowKit Go.Proofs.RV
set_option linter.unusedSimpArgs false
set_option linter.unusedVariables false
set_option maxRecDepth 10000
set_option maxHeartbeats 4000000
def inB (now : Int) (L : BoxL) (p : PrefM) : Bool := decide (p ∈ keysM (sweepL now L))
theorem box_in (w : World) (x b t room : Nat) (term rate burst : Int) (L : BoxL) (p : PrefM) (now : Int) (hp : p.addr.length = 7) (hB : BoxW w x b t room term rate burst L) :
    Ret Try.prog 33 #[.pointer (some ⟨x, 0, none⟩), .agg p.cells.toArray, .int .i64 now] w fun v w' => v = .bool (inB now L p) ∧ BoxW w' x b t room term rate burst (sweepL now L) ∧ Mod (two b t) w w' := by
  refine ret_of Try.func33 rfl (by kernel_rfl) (Nat.le_of_ble_eq_true (by kernel_rfl)) ?_
  have hm1 := more_alloc w (.cells p.cells.toArray 24)
  have hb1 := Blk.new w 24 p.cells.toArray
  simp (config := {maxSteps := 1000000}) only [↓zvN, zvU, ↓up_apply, ↓hv_apply, ↓upO_some, ↓upO_none, ↓ev_tmp, ↓ev_const, ↓ev_func, ↓ev_global, init, Nat.reduceEqDiff, Nat.reduceAdd, Nat.reduceMul, Nat.reduceSub, ↓reduceIte, Int.reduceEq, Int.reduceNe, Nat.reduceLeDiff, one, Value.cells, Int.reduceLE, Int.reduceLT, Int.reduceToNat, add_mk, reduceCtorEq, List.mem_range'_1, true_and, and_true, and_false, false_and, Nat.reduceLT, Nat.reduceLeDiff, tyF]
  obtain ⟨w1, hw1⟩ : ∃ w1, w.alloc (.cells p.cells.toArray 24) = w1 := ⟨_, rfl⟩
  rw [hw1] at hm1 hb1 ⊢
  clear hw1
  rw [List.toList_toArray] at hb1
  have hpb2 : ¬ two b t w.heap.size := by have := hB.tab.lt; rintro (h | h) <;> omega
  obtain ⟨pb, hpb⟩ : ∃ q, w.heap.size = q := ⟨_, rfl⟩
  rw [hpb] at hb1 hpb2 ⊢
  have h8 : p.cells.length = 8 := by simp [PrefM.cells, hp]
  try simp (config := {maxSteps := 1000000}) only [↓zvN, zvU, ↓up_apply, ↓hv_apply, ↓upO_some, ↓upO_none, ↓ev_tmp, ↓ev_const, ↓ev_func, ↓ev_global, init, Nat.reduceEqDiff, Nat.reduceAdd, Nat.reduceMul, Nat.reduceSub, ↓reduceIte, Int.reduceEq, Int.reduceNe, Nat.reduceLeDiff, one, Value.cells, Int.reduceLE, Int.reduceLT, Int.reduceToNat, add_mk, reduceCtorEq, List.mem_range'_1, true_and, and_true, and_false, false_and, Nat.reduceLT, Nat.reduceLeDiff, tyF]
  refine call_ok Try.call52 (box_sweep w1 x b t room term rate burst L now (hB.more hm1)) ?_
  rintro _ w2 ⟨rfl, hB2, hm2⟩
  have hb2 := hm2.blk hb1 hpb2
  have cx2 := hB2.box.cell 0
  simp only [List.getElem?_cons_zero] at cx2
  have lx2 := hB2.box.lt
  have v2 := hb2.all_eq 8 h8
  have l2 := hb2.lt
  have hsrt := hB2.sorted
  have hmm2 : Mod (two b t) w w2 := (Mod.of_more hm1).trans hm2
  unfold inB
  by_cases hin : p ∈ keysM (sweepL now L)
  · obtain ⟨u, hu⟩ := mem_keys.1 hin
    have hget := gets_some hB2 hp (get_some hsrt hu)
    rw [decide_eq_true hin]
    simp (config := {maxSteps := 1000000}) only [↓zvN, zvU, ↓up_apply, ↓hv_apply, ↓upO_some, ↓upO_none, ↓ev_tmp, ↓ev_const, ↓ev_func, ↓ev_global, init, Nat.reduceEqDiff, Nat.reduceAdd, Nat.reduceMul, Nat.reduceSub, ↓reduceIte, Int.reduceEq, Int.reduceNe, Nat.reduceLeDiff, one, Value.cells, Int.reduceLE, Int.reduceLT, Int.reduceToNat, add_mk, reduceCtorEq, List.mem_range'_1, true_and, and_true, and_false, false_and, Nat.reduceLT, Nat.reduceLeDiff, tyF]
    refine draw_finH 108 [.int .i64 u.until_, .pointer (some ⟨u.q, 0, none⟩)] 11 [[], [0], [0, 1], [0, 1, 2], [], [0, 1, 2, 3, 4], [0, 1, 2, 3, 4, 5], [0, 1, 2, 3, 4, 5, 6], [0, 1, 2, 3, 4, 5, 6], [], [0, 1, 2, 3, 4, 5, 6, 7, 9], [0, 1, 2, 3, 4, 5, 6, 7, 8, 9, 10]]
      [(5, fun _ v _ => v = .tuple #[.agg #[.int .i64 u.until_, .pointer (some ⟨u.q, 0, none⟩)], .bool true]), (9, fun _ v w' => EntF w2.heap.size v w'), (10, fun g _ w' => ∀ r, g[0]? = some (.pointer (some ⟨r, 0, none⟩)) → Blk w' r 108 [.int .i64 u.until_, .pointer (some ⟨u.q, 0, none⟩)])] mixed (by kernel_rfl) (by kernel_rfl) ?_ ?_
    · intro y hy g v a b hab
      simp only [List.mem_cons, List.not_mem_nil, or_false] at hy
      rcases hy with rfl | rfl | rfl
      · exact fun h => h
      · rintro ⟨r, rfl, h1, h2⟩
        exact ⟨r, rfl, h1, hab.some h2⟩
      · intro h r hr
        exact hab.done (h r hr)
    simp (config := {maxSteps := 1000000}) only [↓zvN, zvU, ↓zqD, ↓h_cons, ↓hs_guard, ↓hs_none, ↓h_some, ↓hs_nil, ↓lookH_nil, ↓lookH_cons, ↓given_store, ↓up_apply, ↓hv_apply, ↓upO_some, ↓upO_none, ↓ev_tmp, ↓ev_const, ↓ev_func, ↓ev_global, init, Nat.reduceEqDiff, Nat.reduceAdd, Nat.reduceMul, Nat.reduceSub, ↓reduceIte, Int.reduceEq, Int.reduceNe, Nat.reduceLeDiff, one, Value.cells, Int.reduceLE, Int.reduceLT, Int.reduceToNat, add_mk, reduceCtorEq, List.mem_range'_1, true_and, and_true, and_false, false_and, Nat.reduceLT, Nat.reduceLeDiff, tyF, cx2, lx2, v2, l2]
    refine ⟨fun w5 hf5 => ?_, ?_⟩
    · refine call_ok Try.call53 (hget w5 hf5.below) ?_
      rintro _ w6 ⟨rfl, hm6⟩
      simp (config := {maxSteps := 1000000}) only [↓zvN, zvU, ↓zqD, ↓h_cons, ↓hs_guard, ↓hs_none, ↓h_some, ↓hs_nil, ↓lookH_nil, ↓lookH_cons, ↓given_store, ↓up_apply, ↓hv_apply, ↓upO_some, ↓upO_none, ↓ev_tmp, ↓ev_const, ↓ev_func, ↓ev_global, init, Nat.reduceEqDiff, Nat.reduceAdd, Nat.reduceMul, Nat.reduceSub, ↓reduceIte, Int.reduceEq, Int.reduceNe, Nat.reduceLeDiff, one, Value.cells, Int.reduceLE, Int.reduceLT, Int.reduceToNat, add_mk, reduceCtorEq, List.mem_range'_1, true_and, and_true, and_false, false_and, Nat.reduceLT, Nat.reduceLeDiff, tyF]
      exact Fin.of_more hm6 hf5.below.size
    rintro _ ⟨w5, hf5, rfl⟩
    simp (config := {maxSteps := 1000000}) only [↓zvN, zvU, ↓zqD, ↓h_cons, ↓hs_guard, ↓hs_none, ↓h_some, ↓hs_nil, ↓lookH_nil, ↓lookH_cons, ↓given_store, ↓up_apply, ↓hv_apply, ↓upO_some, ↓upO_none, ↓ev_tmp, ↓ev_const, ↓ev_func, ↓ev_global, init, Nat.reduceEqDiff, Nat.reduceAdd, Nat.reduceMul, Nat.reduceSub, ↓reduceIte, Int.reduceEq, Int.reduceNe, Nat.reduceLeDiff, one, Value.cells, Int.reduceLE, Int.reduceLT, Int.reduceToNat, add_mk, reduceCtorEq, List.mem_range'_1, true_and, and_true, and_false, false_and, Nat.reduceLT, Nat.reduceLeDiff, tyF, zerEntry]
    refine ⟨fun w6 hf6 => ?_, ?_⟩
    · have hle := hf6.below.size
      have hmm := more_alloc w6 (.cells #[.int .i64 0, .pointer none] 108)
      exact ⟨Fin.of_more hmm hle, w6.heap.size, rfl, hle, _, Blk.new .., rfl⟩
    rintro _ ⟨w6, hf6, r, rfl, hr, _⟩
    simp (config := {maxSteps := 1000000}) only [↓zvN, zvU, ↓zqD, ↓h_cons, ↓hs_guard, ↓hs_none, ↓h_some, ↓hs_nil, ↓lookH_nil, ↓lookH_cons, ↓given_store, ↓up_apply, ↓hv_apply, ↓upO_some, ↓upO_none, ↓ev_tmp, ↓ev_const, ↓ev_func, ↓ev_global, init, Nat.reduceEqDiff, Nat.reduceAdd, Nat.reduceMul, Nat.reduceSub, ↓reduceIte, Int.reduceEq, Int.reduceNe, Nat.reduceLeDiff, one, Value.cells, Int.reduceLE, Int.reduceLT, Int.reduceToNat, add_mk, reduceCtorEq, List.mem_range'_1, true_and, and_true, and_false, false_and, Nat.reduceLT, Nat.reduceLeDiff, tyF]
    refine ⟨fun w7 hf7 hd7 => ?_, ?_⟩
    · obtain ⟨r', er, _, cs, hcs, hcl⟩ := hd7
      cases er
      refine st_all hcs rfl hcl (by intro u hu; simp at hu; rcases hu with rfl | rfl <;> rfl) fun w8 k1 k2 => ?_
      refine ⟨Fin.of_wr k1 hcs k2 hr, fun r1 h1 => ?_⟩
      cases h1
      exact k2
    rintro _ ⟨w7, hf7, _, _⟩
    rw [stop1]
    simp (config := {maxSteps := 1000000}) only [↓zvN, zvU, ↓zqD, ↓h_cons, ↓hs_guard, ↓hs_none, ↓h_some, ↓hs_nil, ↓lookH_nil, ↓lookH_cons, ↓given_store, ↓up_apply, ↓hv_apply, ↓upO_some, ↓upO_none, ↓ev_tmp, ↓ev_const, ↓ev_func, ↓ev_global, init, Nat.reduceEqDiff, Nat.reduceAdd, Nat.reduceMul, Nat.reduceSub, ↓reduceIte, Int.reduceEq, Int.reduceNe, Nat.reduceLeDiff, one, Value.cells, Int.reduceLE, Int.reduceLT, Int.reduceToNat, add_mk, reduceCtorEq, List.mem_range'_1, true_and, and_true, and_false, false_and, Nat.reduceLT, Nat.reduceLeDiff, tyF]
    intro w8 hf8 hd8
    have hb8 : Blk w8 r 108 [.int .i64 u.until_, .pointer (some ⟨u.q, 0, none⟩)] := (by
      first
      | exact hd8 r rfl
      | exact hd8.1 r rfl
      | exact hd8.2 r rfl
      | exact hd8.2.1 r rfl
      | exact hd8.2.2 r rfl)
    have hm8 : More w2 w8 := hf8.below
    try simp (config := {maxSteps := 1000000}) only [↓zvN, zvU, ↓up_apply, ↓hv_apply, ↓upO_some, ↓upO_none, ↓ev_tmp, ↓ev_const, ↓ev_func, ↓ev_global, init, Nat.reduceEqDiff, Nat.reduceAdd, Nat.reduceMul, Nat.reduceSub, ↓reduceIte, Int.reduceEq, Int.reduceNe, Nat.reduceLeDiff, one, Value.cells, Int.reduceLE, Int.reduceLT, Int.reduceToNat, add_mk, reduceCtorEq, List.mem_range'_1, true_and, and_true, and_false, false_and, Nat.reduceLT, Nat.reduceLeDiff, tyF, p_nil]
    exact ⟨rfl, hB2.more hm8, hmm2.trans (Mod.of_more hm8)⟩
  · have hget := gets_none hB2 hp (get_none hin)
    rw [decide_eq_false hin]
    simp (config := {maxSteps := 1000000}) only [↓zvN, zvU, ↓up_apply, ↓hv_apply, ↓upO_some, ↓upO_none, ↓ev_tmp, ↓ev_const, ↓ev_func, ↓ev_global, init, Nat.reduceEqDiff, Nat.reduceAdd, Nat.reduceMul, Nat.reduceSub, ↓reduceIte, Int.reduceEq, Int.reduceNe, Nat.reduceLeDiff, one, Value.cells, Int.reduceLE, Int.reduceLT, Int.reduceToNat, add_mk, reduceCtorEq, List.mem_range'_1, true_and, and_true, and_false, false_and, Nat.reduceLT, Nat.reduceLeDiff, tyF]
    refine draw_finH 108 [.int .i64 0, .pointer none] 11 [[], [0], [0, 1], [0, 1, 2], [], [0, 1, 2, 3, 4], [0, 1, 2, 3, 4, 5], [0, 1, 2, 3, 4, 5, 6], [0, 1, 2, 3, 4, 5, 6], [], [0, 1, 2, 3, 4, 5, 6, 7, 9], [0, 1, 2, 3, 4, 5, 6, 7, 8, 9, 10]]
      [(5, fun _ v _ => v = .tuple #[.agg #[.int .i64 0, .pointer none], .bool false]), (9, fun _ v w' => EntF w2.heap.size v w'), (10, fun g _ w' => ∀ r, g[0]? = some (.pointer (some ⟨r, 0, none⟩)) → Blk w' r 108 [.int .i64 0, .pointer none])] mixed (by kernel_rfl) (by kernel_rfl) ?_ ?_
    · intro y hy g v a b hab
      simp only [List.mem_cons, List.not_mem_nil, or_false] at hy
      rcases hy with rfl | rfl | rfl
      · exact fun h => h
      · rintro ⟨r, rfl, h1, h2⟩
        exact ⟨r, rfl, h1, hab.some h2⟩
      · intro h r hr
        exact hab.done (h r hr)
    simp (config := {maxSteps := 1000000}) only [↓zvN, zvU, ↓zqD, ↓h_cons, ↓hs_guard, ↓hs_none, ↓h_some, ↓hs_nil, ↓lookH_nil, ↓lookH_cons, ↓given_store, ↓up_apply, ↓hv_apply, ↓upO_some, ↓upO_none, ↓ev_tmp, ↓ev_const, ↓ev_func, ↓ev_global, init, Nat.reduceEqDiff, Nat.reduceAdd, Nat.reduceMul, Nat.reduceSub, ↓reduceIte, Int.reduceEq, Int.reduceNe, Nat.reduceLeDiff, one, Value.cells, Int.reduceLE, Int.reduceLT, Int.reduceToNat, add_mk, reduceCtorEq, List.mem_range'_1, true_and, and_true, and_false, false_and, Nat.reduceLT, Nat.reduceLeDiff, tyF, cx2, lx2, v2, l2]
    refine ⟨fun w5 hf5 => ?_, ?_⟩
    · refine call_ok Try.call53 (hget w5 hf5.below) ?_
      rintro _ w6 ⟨rfl, hm6⟩
      simp (config := {maxSteps := 1000000}) only [↓zvN, zvU, ↓zqD, ↓h_cons, ↓hs_guard, ↓hs_none, ↓h_some, ↓hs_nil, ↓lookH_nil, ↓lookH_cons, ↓given_store, ↓up_apply, ↓hv_apply, ↓upO_some, ↓upO_none, ↓ev_tmp, ↓ev_const, ↓ev_func, ↓ev_global, init, Nat.reduceEqDiff, Nat.reduceAdd, Nat.reduceMul, Nat.reduceSub, ↓reduceIte, Int.reduceEq, Int.reduceNe, Nat.reduceLeDiff, one, Value.cells, Int.reduceLE, Int.reduceLT, Int.reduceToNat, add_mk, reduceCtorEq, List.mem_range'_1, true_and, and_true, and_false, false_and, Nat.reduceLT, Nat.reduceLeDiff, tyF]
      exact Fin.of_more hm6 hf5.below.size
    rintro _ ⟨w5, hf5, rfl⟩
    simp (config := {maxSteps := 1000000}) only [↓zvN, zvU, ↓zqD, ↓h_cons, ↓hs_guard, ↓hs_none, ↓h_some, ↓hs_nil, ↓lookH_nil, ↓lookH_cons, ↓given_store, ↓up_apply, ↓hv_apply, ↓upO_some, ↓upO_none, ↓ev_tmp, ↓ev_const, ↓ev_func, ↓ev_global, init, Nat.reduceEqDiff, Nat.reduceAdd, Nat.reduceMul, Nat.reduceSub, ↓reduceIte, Int.reduceEq, Int.reduceNe, Nat.reduceLeDiff, one, Value.cells, Int.reduceLE, Int.reduceLT, Int.reduceToNat, add_mk, reduceCtorEq, List.mem_range'_1, true_and, and_true, and_false, false_and, Nat.reduceLT, Nat.reduceLeDiff, tyF, zerEntry]
    refine ⟨fun w6 hf6 => ?_, ?_⟩
    · have hle := hf6.below.size
      have hmm := more_alloc w6 (.cells #[.int .i64 0, .pointer none] 108)
      exact ⟨Fin.of_more hmm hle, w6.heap.size, rfl, hle, _, Blk.new .., rfl⟩
    rintro _ ⟨w6, hf6, r, rfl, hr, _⟩
    simp (config := {maxSteps := 1000000}) only [↓zvN, zvU, ↓zqD, ↓h_cons, ↓hs_guard, ↓hs_none, ↓h_some, ↓hs_nil, ↓lookH_nil, ↓lookH_cons, ↓given_store, ↓up_apply, ↓hv_apply, ↓upO_some, ↓upO_none, ↓ev_tmp, ↓ev_const, ↓ev_func, ↓ev_global, init, Nat.reduceEqDiff, Nat.reduceAdd, Nat.reduceMul, Nat.reduceSub, ↓reduceIte, Int.reduceEq, Int.reduceNe, Nat.reduceLeDiff, one, Value.cells, Int.reduceLE, Int.reduceLT, Int.reduceToNat, add_mk, reduceCtorEq, List.mem_range'_1, true_and, and_true, and_false, false_and, Nat.reduceLT, Nat.reduceLeDiff, tyF]
    refine ⟨fun w7 hf7 hd7 => ?_, ?_⟩
    · obtain ⟨r', er, _, cs, hcs, hcl⟩ := hd7
      cases er
      refine st_all hcs rfl hcl (by intro u hu; simp at hu; rcases hu with rfl | rfl <;> rfl) fun w8 k1 k2 => ?_
      refine ⟨Fin.of_wr k1 hcs k2 hr, fun r1 h1 => ?_⟩
      cases h1
      exact k2
    rintro _ ⟨w7, hf7, _, _⟩
    rw [stop1]
    simp (config := {maxSteps := 1000000}) only [↓zvN, zvU, ↓zqD, ↓h_cons, ↓hs_guard, ↓hs_none, ↓h_some, ↓hs_nil, ↓lookH_nil, ↓lookH_cons, ↓given_store, ↓up_apply, ↓hv_apply, ↓upO_some, ↓upO_none, ↓ev_tmp, ↓ev_const, ↓ev_func, ↓ev_global, init, Nat.reduceEqDiff, Nat.reduceAdd, Nat.reduceMul, Nat.reduceSub, ↓reduceIte, Int.reduceEq, Int.reduceNe, Nat.reduceLeDiff, one, Value.cells, Int.reduceLE, Int.reduceLT, Int.reduceToNat, add_mk, reduceCtorEq, List.mem_range'_1, true_and, and_true, and_false, false_and, Nat.reduceLT, Nat.reduceLeDiff, tyF]
    intro w8 hf8 hd8
    have hb8 : Blk w8 r 108 [.int .i64 0, .pointer none] := (by
      first
      | exact hd8 r rfl
      | exact hd8.1 r rfl
      | exact hd8.2 r rfl
      | exact hd8.2.1 r rfl
      | exact hd8.2.2 r rfl)
    have hm8 : More w2 w8 := hf8.below
    try simp (config := {maxSteps := 1000000}) only [↓zvN, zvU, ↓up_apply, ↓hv_apply, ↓upO_some, ↓upO_none, ↓ev_tmp, ↓ev_const, ↓ev_func, ↓ev_global, init, Nat.reduceEqDiff, Nat.reduceAdd, Nat.reduceMul, Nat.reduceSub, ↓reduceIte, Int.reduceEq, Int.reduceNe, Nat.reduceLeDiff, one, Value.cells, Int.reduceLE, Int.reduceLT, Int.reduceToNat, add_mk, reduceCtorEq, List.mem_range'_1, true_and, and_true, and_false, false_and, Nat.reduceLT, Nat.reduceLeDiff, tyF, p_nil]
    exact ⟨rfl, hB2.more hm8, hmm2.trans (Mod.of_more hm8)⟩
theorem box_all (w : World) (x b t room : Nat) (term rate burst : Int) (L : BoxL) (now : Int) (hB : BoxW w x b t room term rate burst L) :
    Ret Try.prog 36 #[.pointer (some ⟨x, 0, none⟩), .int .i64 now] w fun v w' => ∃ A c, v = .slice A (sweepL now L).length c ∧ Cs w' A ((keysM (sweepL now L)).flatMap PrefM.cells) ∧ (∀ a, A = some a → w.heap.size ≤ a.block) ∧ BoxW w' x b t room term rate burst (sweepL now L) ∧ Mod (two b t) w w' := by
  refine ret_of Try.func36 rfl (by kernel_rfl) (Nat.le_of_ble_eq_true (by kernel_rfl)) ?_
  simp (config := {maxSteps := 1000000}) only [↓zvN, zvU, ↓up_apply, ↓hv_apply, ↓upO_some, ↓upO_none, ↓ev_tmp, ↓ev_const, ↓ev_func, ↓ev_global, init, Nat.reduceEqDiff, Nat.reduceAdd, Nat.reduceMul, Nat.reduceSub, ↓reduceIte, Int.reduceEq, Int.reduceNe, Nat.reduceLeDiff, one, Value.cells, Int.reduceLE, Int.reduceLT, Int.reduceToNat, add_mk, reduceCtorEq, List.mem_range'_1, true_and, and_true, and_false, false_and, Nat.reduceLT, Nat.reduceLeDiff, tyF]
  refine call_ok Try.call52 (box_sweep w x b t room term rate burst L now hB) ?_
  rintro _ w2 ⟨rfl, hB2, hm2⟩
  have cx2 := hB2.box.cell 0
  simp only [List.getElem?_cons_zero] at cx2
  simp (config := {maxSteps := 1000000}) only [↓zvN, zvU, ↓up_apply, ↓hv_apply, ↓upO_some, ↓upO_none, ↓ev_tmp, ↓ev_const, ↓ev_func, ↓ev_global, init, Nat.reduceEqDiff, Nat.reduceAdd, Nat.reduceMul, Nat.reduceSub, ↓reduceIte, Int.reduceEq, Int.reduceNe, Nat.reduceLeDiff, one, Value.cells, Int.reduceLE, Int.reduceLT, Int.reduceToNat, add_mk, reduceCtorEq, List.mem_range'_1, true_and, and_true, and_false, false_and, Nat.reduceLT, Nat.reduceLeDiff, tyF, cx2]
  refine call_ok Try.call58 (tab_all_box w2 b t _ room hB2.tab) ?_
  rintro _ w3 ⟨A, c, rfl, hA, hAb, hm3⟩
  rw [keys_entB] at hA ⊢
  have hkl : (keysM (sweepL now L)).length = (sweepL now L).length := by unfold keysM; rw [List.length_map]
  rw [hkl]
  simp (config := {maxSteps := 1000000}) only [↓zvN, zvU, ↓up_apply, ↓hv_apply, ↓upO_some, ↓upO_none, ↓ev_tmp, ↓ev_const, ↓ev_func, ↓ev_global, init, Nat.reduceEqDiff, Nat.reduceAdd, Nat.reduceMul, Nat.reduceSub, ↓reduceIte, Int.reduceEq, Int.reduceNe, Nat.reduceLeDiff, one, Value.cells, Int.reduceLE, Int.reduceLT, Int.reduceToNat, add_mk, reduceCtorEq, List.mem_range'_1, true_and, and_true, and_false, false_and, Nat.reduceLT, Nat.reduceLeDiff, tyF]
  have := hm2.size
  exact ⟨A, c, rfl, hA, fun a ha => by have := hAb a ha; omega, hB2.more hm3, hm2.trans (Mod.of_more hm3)⟩
theorem box_drop (w : World) (x b t room : Nat) (term rate burst : Int) (L : BoxL) (p : PrefM) (now : Int) (hp : p.addr.length = 7) (hB : BoxW w x b t room term rate burst L) :
    Ret Try.prog 34 #[.pointer (some ⟨x, 0, none⟩), .agg p.cells.toArray, .int .i64 now] w fun v w' => v = .bool (inB now L p) ∧ BoxW w' x b t room term rate burst (delL (sweepL now L) p) ∧ Mod (two b t) w w' := by
  refine ret_of Try.func34 rfl (by kernel_rfl) (Nat.le_of_ble_eq_true (by kernel_rfl)) ?_
  have hm1 := more_alloc w (.cells p.cells.toArray 24)
  have hb1 := Blk.new w 24 p.cells.toArray
  simp (config := {maxSteps := 1000000}) only [↓zvN, zvU, ↓up_apply, ↓hv_apply, ↓upO_some, ↓upO_none, ↓ev_tmp, ↓ev_const, ↓ev_func, ↓ev_global, init, Nat.reduceEqDiff, Nat.reduceAdd, Nat.reduceMul, Nat.reduceSub, ↓reduceIte, Int.reduceEq, Int.reduceNe, Nat.reduceLeDiff, one, Value.cells, Int.reduceLE, Int.reduceLT, Int.reduceToNat, add_mk, reduceCtorEq, List.mem_range'_1, true_and, and_true, and_false, false_and, Nat.reduceLT, Nat.reduceLeDiff, tyF]
  obtain ⟨w1, hw1⟩ : ∃ w1, w.alloc (.cells p.cells.toArray 24) = w1 := ⟨_, rfl⟩
  rw [hw1] at hm1 hb1 ⊢
  clear hw1
  rw [List.toList_toArray] at hb1
  have hpb2 : ¬ two b t w.heap.size := by have := hB.tab.lt; rintro (h | h) <;> omega
  obtain ⟨pb, hpb⟩ : ∃ q, w.heap.size = q := ⟨_, rfl⟩
  rw [hpb] at hb1 hpb2 ⊢
  have h8 : p.cells.length = 8 := by simp [PrefM.cells, hp]
  have hB1 := hB.more hm1
  have hxF : ∀ k, (k = x ∨ k = pb) → k < w1.heap.size := by rintro k (rfl | rfl); exact hB1.box.lt; exact hb1.lt
  refine draw_line 0 (KeepF 0 fun k => k = x ∨ k = pb) [0, 0, 1, 0, 0, 0, 0, 2, 2, 1, 0, 0] [[], [], [0, 1], [0, 1, 2], [0, 1, 2, 3], [0, 1, 2, 3, 4], [0, 1, 2, 3, 4, 5], [0, 1, 2, 3, 4, 5, 6], [0, 1, 2, 3], [0, 1, 2, 3, 4, 5, 6, 7, 8], [0, 1, 2, 3, 4, 5, 6, 7, 8, 9], [0, 1, 2, 3, 4, 5, 6, 7, 8, 9, 10]] mixed (by kernel_rfl) (by kernel_rfl) (KeepF.refl _ _ _) (fun w' h => KeepF.of_more h (by omega) hxF) (fun w' h => h.1) ?_
  intro w2 hm2
  simp (config := {maxSteps := 1000000}) only [↓zvN, zvU, ↓zqD, ↓sk_nil, ↓sk_cons, ↓sk_guard, ↓sk_zero, ↓sk_one, ↓sk_two, ↓up_apply, ↓hv_apply, ↓upO_some, ↓upO_none, ↓ev_tmp, ↓ev_const, ↓ev_func, ↓ev_global, init, Nat.reduceEqDiff, Nat.reduceAdd, Nat.reduceMul, Nat.reduceSub, ↓reduceIte, Int.reduceEq, Int.reduceNe, Nat.reduceLeDiff, one, Value.cells, Int.reduceLE, Int.reduceLT, Int.reduceToNat, add_mk, reduceCtorEq, List.mem_range'_1, true_and, and_true, and_false, false_and, Nat.reduceLT, Nat.reduceLeDiff, tyF]
  refine call_ok Try.call52 (box_sweep w2 x b t room term rate burst L now (hB1.more hm2)) ?_
  rintro _ w3 ⟨rfl, hB3, hm3⟩
  simp (config := {maxSteps := 1000000}) only [↓zvN, zvU, ↓zqD, ↓sk_nil, ↓sk_cons, ↓sk_guard, ↓sk_zero, ↓sk_one, ↓sk_two, ↓up_apply, ↓hv_apply, ↓upO_some, ↓upO_none, ↓ev_tmp, ↓ev_const, ↓ev_func, ↓ev_global, init, Nat.reduceEqDiff, Nat.reduceAdd, Nat.reduceMul, Nat.reduceSub, ↓reduceIte, Int.reduceEq, Int.reduceNe, Nat.reduceLeDiff, one, Value.cells, Int.reduceLE, Int.reduceLT, Int.reduceToNat, add_mk, reduceCtorEq, List.mem_range'_1, true_and, and_true, and_false, false_and, Nat.reduceLT, Nat.reduceLeDiff, tyF]
  have hk3 : KeepF 0 (fun k => k = x ∨ k = pb) w1 w3 := (KeepF.of_more hm2 (by omega) hxF).next hm3 (by rintro k (rfl | rfl) h; exact (by rcases h with h | h; exact hB1.ne.1 h; exact hB1.ne.2 h); exact hpb2 h) (fun k hk => by omega) (fun k hk => by have := hxF k hk; have := hm2.size; omega) (by omega)
  refine ⟨hk3, ?_⟩
  refine read_ok (.pointer (some ⟨t, 0, none⟩)) rfl (fun wr hkr => ?_) ?_
  · have cr := (hkr.blk (.inl rfl) hB1.box).cell 0
    simp only [List.getElem?_cons_zero] at cr
    simp (config := {maxSteps := 1000000}) only [↓zvN, zvU, ↓up_apply, ↓hv_apply, ↓upO_some, ↓upO_none, ↓ev_tmp, ↓ev_const, ↓ev_func, ↓ev_global, init, Nat.reduceEqDiff, Nat.reduceAdd, Nat.reduceMul, Nat.reduceSub, ↓reduceIte, Int.reduceEq, Int.reduceNe, Nat.reduceLeDiff, one, Value.cells, Int.reduceLE, Int.reduceLT, Int.reduceToNat, add_mk, reduceCtorEq, List.mem_range'_1, true_and, and_true, and_false, false_and, Nat.reduceLT, Nat.reduceLeDiff, tyF, cr]
  simp (config := {maxSteps := 1000000}) only [↓zvN, zvU, ↓zqD, ↓sk_nil, ↓sk_cons, ↓sk_guard, ↓sk_zero, ↓sk_one, ↓sk_two, ↓up_apply, ↓hv_apply, ↓upO_some, ↓upO_none, ↓ev_tmp, ↓ev_const, ↓ev_func, ↓ev_global, init, Nat.reduceEqDiff, Nat.reduceAdd, Nat.reduceMul, Nat.reduceSub, ↓reduceIte, Int.reduceEq, Int.reduceNe, Nat.reduceLeDiff, one, Value.cells, Int.reduceLE, Int.reduceLT, Int.reduceToNat, add_mk, reduceCtorEq, List.mem_range'_1, true_and, and_true, and_false, false_and, Nat.reduceLT, Nat.reduceLeDiff, tyF]
  refine read_ok (.agg p.cells.toArray) rfl (fun wr hkr => ?_) ?_
  · have vr := (hkr.blk (.inr rfl) hb1).all_eq 8 h8
    simp (config := {maxSteps := 1000000}) only [↓zvN, zvU, ↓up_apply, ↓hv_apply, ↓upO_some, ↓upO_none, ↓ev_tmp, ↓ev_const, ↓ev_func, ↓ev_global, init, Nat.reduceEqDiff, Nat.reduceAdd, Nat.reduceMul, Nat.reduceSub, ↓reduceIte, Int.reduceEq, Int.reduceNe, Nat.reduceLeDiff, one, Value.cells, Int.reduceLE, Int.reduceLT, Int.reduceToNat, add_mk, reduceCtorEq, List.mem_range'_1, true_and, and_true, and_false, false_and, Nat.reduceLT, Nat.reduceLeDiff, tyF, vr]
  simp (config := {maxSteps := 1000000}) only [↓zvN, zvU, ↓zqD, ↓sk_nil, ↓sk_cons, ↓sk_guard, ↓sk_zero, ↓sk_one, ↓sk_two, ↓up_apply, ↓hv_apply, ↓upO_some, ↓upO_none, ↓ev_tmp, ↓ev_const, ↓ev_func, ↓ev_global, init, Nat.reduceEqDiff, Nat.reduceAdd, Nat.reduceMul, Nat.reduceSub, ↓reduceIte, Int.reduceEq, Int.reduceNe, Nat.reduceLeDiff, one, Value.cells, Int.reduceLE, Int.reduceLT, Int.reduceToNat, add_mk, reduceCtorEq, List.mem_range'_1, true_and, and_true, and_false, false_and, Nat.reduceLT, Nat.reduceLeDiff, tyF]
  refine call_ok Try.call57 (tab_del_box w3 b t _ room p hp hB3.tab hB3.room_le) ?_
  rintro _ w4 ⟨rfl, hT4, hm4⟩
  rw [del_entB] at hT4
  have hB4 : BoxW w4 x b t room term rate burst (delL (sweepL now L) p) :=
    ⟨hm4.blk hB3.box (by rintro (h | h); exact hB3.ne.1 h; exact hB3.ne.2 h), hT4,
     (hB3.own.mod hm4 (fun d hd => by have := hB3.own.sep d hd; rintro (h | h); exact this.1 h; exact this.2.1 h)).sub (fun d hd => (List.mem_filter.1 hd).1), hB3.ne, hB3.room_le, hB3.ok⟩
  have hk4 : KeepF 0 (fun k => k = x ∨ k = pb) w1 w4 := hk3.next hm4 (by rintro k (rfl | rfl) h; exact (by rcases h with h | h; exact hB1.ne.1 h; exact hB1.ne.2 h); exact hpb2 h) (fun k hk => by omega) (fun k hk => by have := hxF k hk; have := hm2.size; have := hm3.size; omega) (by omega)
  have hdk : decide (p ∈ keysM ((sweepL now L).map entB)) = inB now L p := by
    unfold inB
    have hmem : p ∈ keysM ((sweepL now L).map entB) ↔ p ∈ keysM (sweepL now L) := by rw [keys_entB]
    simp [hmem]
  rw [hdk]
  simp (config := {maxSteps := 1000000}) only [↓zvN, zvU, ↓zqD, ↓sk_nil, ↓sk_cons, ↓sk_guard, ↓sk_zero, ↓sk_one, ↓sk_two, ↓up_apply, ↓hv_apply, ↓upO_some, ↓upO_none, ↓ev_tmp, ↓ev_const, ↓ev_func, ↓ev_global, init, Nat.reduceEqDiff, Nat.reduceAdd, Nat.reduceMul, Nat.reduceSub, ↓reduceIte, Int.reduceEq, Int.reduceNe, Nat.reduceLeDiff, one, Value.cells, Int.reduceLE, Int.reduceLT, Int.reduceToNat, add_mk, reduceCtorEq, List.mem_range'_1, true_and, and_true, and_false, false_and, Nat.reduceLT, Nat.reduceLeDiff, tyF]
  exact ⟨hk4, rfl, hB4, (((Mod.of_more hm1).trans (Mod.of_more hm2)).trans hm3).trans hm4⟩
def takeL (L : BoxL) (p : PrefM) (now n : Int) : BoxL := L.map fun e => if e.1 = p then (e.1, { e.2 with tok := e.2.tok.take now n }) else e
def canB (now n : Int) (L : BoxL) (p : PrefM) : Bool := match getL (sweepL now L) p with | some e => e.tok.can (max now 0) n | none => false
def owns (b t : Nat) (L : BoxL) (k : Nat) : Prop := two b t k ∨ ∃ e ∈ L, k = e.2.q
theorem keys_take (L : BoxL) (p : PrefM) (now n : Int) : keysM (takeL L p now n) = keysM L := by
  unfold keysM takeL
  rw [List.map_map]
  apply List.map_congr_left
  intro e _
  simp only [Function.comp]
  split <;> rfl
theorem ent_take (L : BoxL) (p : PrefM) (now n : Int) : (takeL L p now n).map entB = L.map entB := by
  unfold takeL
  rw [List.map_map]
  apply List.map_congr_left
  intro e _
  simp only [Function.comp]
  split <;> rfl
theorem box_take (w : World) (x b t room : Nat) (term rate burst : Int) (L : BoxL) (p : PrefM) (now n : Int) (hp : p.addr.length = 7) (hB : BoxW w x b t room term rate burst L) (hn : now ≤ 9223372036854775807) (hn2 : n ≤ 9223372036854775807) :
    Ret Try.prog 35 #[.pointer (some ⟨x, 0, none⟩), .agg p.cells.toArray, .int .i64 now, .int .i64 n] w fun v w' => v = .bool (canB now n L p) ∧ BoxW w' x b t room term rate burst (takeL (sweepL now L) p (max now 0) n) ∧ Mod (owns b t L) w w' := by
  refine ret_of Try.func35 rfl (by kernel_rfl) (Nat.le_of_ble_eq_true (by kernel_rfl)) ?_
  have hm1 := more_alloc w (.cells p.cells.toArray 24)
  have hb1 := Blk.new w 24 p.cells.toArray
  simp (config := {maxSteps := 1000000}) only [↓zvN, zvU, ↓up_apply, ↓hv_apply, ↓upO_some, ↓upO_none, ↓ev_tmp, ↓ev_const, ↓ev_func, ↓ev_global, init, Nat.reduceEqDiff, Nat.reduceAdd, Nat.reduceMul, Nat.reduceSub, ↓reduceIte, Int.reduceEq, Int.reduceNe, Nat.reduceLeDiff, one, Value.cells, Int.reduceLE, Int.reduceLT, Int.reduceToNat, add_mk, reduceCtorEq, List.mem_range'_1, true_and, and_true, and_false, false_and, Nat.reduceLT, Nat.reduceLeDiff, tyF]
  obtain ⟨w1, hw1⟩ : ∃ w1, w.alloc (.cells p.cells.toArray 24) = w1 := ⟨_, rfl⟩
  rw [hw1] at hm1 hb1 ⊢
  clear hw1
  rw [List.toList_toArray] at hb1
  have hpb2 : ¬ two b t w.heap.size := by have := hB.tab.lt; rintro (h | h) <;> omega
  obtain ⟨pb, hpb⟩ : ∃ q, w.heap.size = q := ⟨_, rfl⟩
  rw [hpb] at hb1 hpb2 ⊢
  have h8 : p.cells.length = 8 := by simp [PrefM.cells, hp]
  try simp (config := {maxSteps := 1000000}) only [↓zvN, zvU, ↓up_apply, ↓hv_apply, ↓upO_some, ↓upO_none, ↓ev_tmp, ↓ev_const, ↓ev_func, ↓ev_global, init, Nat.reduceEqDiff, Nat.reduceAdd, Nat.reduceMul, Nat.reduceSub, ↓reduceIte, Int.reduceEq, Int.reduceNe, Nat.reduceLeDiff, one, Value.cells, Int.reduceLE, Int.reduceLT, Int.reduceToNat, add_mk, reduceCtorEq, List.mem_range'_1, true_and, and_true, and_false, false_and, Nat.reduceLT, Nat.reduceLeDiff, tyF]
  refine call_ok Try.call52 (box_sweep w1 x b t room term rate burst L now (hB.more hm1)) ?_
  rintro _ w2 ⟨rfl, hB2, hm2⟩
  have hb2 := hm2.blk hb1 hpb2
  have cx2 := hB2.box.cell 0
  simp only [List.getElem?_cons_zero] at cx2
  have lx2 := hB2.box.lt
  have v2 := hb2.all_eq 8 h8
  have l2 := hb2.lt
  have hsrt := hB2.sorted
  have hmm2 : Mod (two b t) w w2 := (Mod.of_more hm1).trans hm2
  have emax : (if now < 0 then (0 : Int) else now) = max now 0 := by split <;> omega
  have hmo : Mod (owns b t L) w w2 := hmm2.mono fun k _ h => .inl h
  by_cases hin : p ∈ keysM (sweepL now L)
  · obtain ⟨u, hu⟩ := mem_keys.1 hin
    have hgu := get_some hsrt hu
    have hget := gets_some hB2 hp hgu
    have hcan : canB now n L p = u.tok.can (max now 0) n := by unfold canB; rw [hgu]
    rw [hcan]
    simp (config := {maxSteps := 1000000}) only [↓zvN, zvU, ↓up_apply, ↓hv_apply, ↓upO_some, ↓upO_none, ↓ev_tmp, ↓ev_const, ↓ev_func, ↓ev_global, init, Nat.reduceEqDiff, Nat.reduceAdd, Nat.reduceMul, Nat.reduceSub, ↓reduceIte, Int.reduceEq, Int.reduceNe, Nat.reduceLeDiff, one, Value.cells, Int.reduceLE, Int.reduceLT, Int.reduceToNat, add_mk, reduceCtorEq, List.mem_range'_1, true_and, and_true, and_false, false_and, Nat.reduceLT, Nat.reduceLeDiff, tyF]
    refine draw_finH 108 [.int .i64 u.until_, .pointer (some ⟨u.q, 0, none⟩)] 11 [[], [0], [0, 1], [0, 1, 2], [], [0, 1, 2, 3, 4], [0, 1, 2, 3, 4, 5], [0, 1, 2, 3, 4, 5, 6], [0, 1, 2, 3, 4, 5, 6], [], [0, 1, 2, 3, 4, 5, 6, 7, 9], [0, 1, 2, 3, 4, 5, 6, 7, 8, 9, 10]]
      [(5, fun _ v _ => v = .tuple #[.agg #[.int .i64 u.until_, .pointer (some ⟨u.q, 0, none⟩)], .bool true]), (9, fun _ v w' => EntF w2.heap.size v w'), (10, fun g _ w' => ∀ r, g[0]? = some (.pointer (some ⟨r, 0, none⟩)) → Blk w' r 108 [.int .i64 u.until_, .pointer (some ⟨u.q, 0, none⟩)])] mixed (by kernel_rfl) (by kernel_rfl) ?_ ?_
    · intro y hy g v a b hab
      simp only [List.mem_cons, List.not_mem_nil, or_false] at hy
      rcases hy with rfl | rfl | rfl
      · exact fun h => h
      · rintro ⟨r, rfl, h1, h2⟩
        exact ⟨r, rfl, h1, hab.some h2⟩
      · intro h r hr
        exact hab.done (h r hr)
    simp (config := {maxSteps := 1000000}) only [↓zvN, zvU, ↓zqD, ↓h_cons, ↓hs_guard, ↓hs_none, ↓h_some, ↓hs_nil, ↓lookH_nil, ↓lookH_cons, ↓given_store, ↓up_apply, ↓hv_apply, ↓upO_some, ↓upO_none, ↓ev_tmp, ↓ev_const, ↓ev_func, ↓ev_global, init, Nat.reduceEqDiff, Nat.reduceAdd, Nat.reduceMul, Nat.reduceSub, ↓reduceIte, Int.reduceEq, Int.reduceNe, Nat.reduceLeDiff, one, Value.cells, Int.reduceLE, Int.reduceLT, Int.reduceToNat, add_mk, reduceCtorEq, List.mem_range'_1, true_and, and_true, and_false, false_and, Nat.reduceLT, Nat.reduceLeDiff, tyF, cx2, lx2, v2, l2]
    refine ⟨fun w5 hf5 => ?_, ?_⟩
    · refine call_ok Try.call53 (hget w5 hf5.below) ?_
      rintro _ w6 ⟨rfl, hm6⟩
      simp (config := {maxSteps := 1000000}) only [↓zvN, zvU, ↓zqD, ↓h_cons, ↓hs_guard, ↓hs_none, ↓h_some, ↓hs_nil, ↓lookH_nil, ↓lookH_cons, ↓given_store, ↓up_apply, ↓hv_apply, ↓upO_some, ↓upO_none, ↓ev_tmp, ↓ev_const, ↓ev_func, ↓ev_global, init, Nat.reduceEqDiff, Nat.reduceAdd, Nat.reduceMul, Nat.reduceSub, ↓reduceIte, Int.reduceEq, Int.reduceNe, Nat.reduceLeDiff, one, Value.cells, Int.reduceLE, Int.reduceLT, Int.reduceToNat, add_mk, reduceCtorEq, List.mem_range'_1, true_and, and_true, and_false, false_and, Nat.reduceLT, Nat.reduceLeDiff, tyF]
      exact Fin.of_more hm6 hf5.below.size
    rintro _ ⟨w5, hf5, rfl⟩
    simp (config := {maxSteps := 1000000}) only [↓zvN, zvU, ↓zqD, ↓h_cons, ↓hs_guard, ↓hs_none, ↓h_some, ↓hs_nil, ↓lookH_nil, ↓lookH_cons, ↓given_store, ↓up_apply, ↓hv_apply, ↓upO_some, ↓upO_none, ↓ev_tmp, ↓ev_const, ↓ev_func, ↓ev_global, init, Nat.reduceEqDiff, Nat.reduceAdd, Nat.reduceMul, Nat.reduceSub, ↓reduceIte, Int.reduceEq, Int.reduceNe, Nat.reduceLeDiff, one, Value.cells, Int.reduceLE, Int.reduceLT, Int.reduceToNat, add_mk, reduceCtorEq, List.mem_range'_1, true_and, and_true, and_false, false_and, Nat.reduceLT, Nat.reduceLeDiff, tyF, zerEntry]
    refine ⟨fun w6 hf6 => ?_, ?_⟩
    · have hle := hf6.below.size
      have hmm := more_alloc w6 (.cells #[.int .i64 0, .pointer none] 108)
      exact ⟨Fin.of_more hmm hle, w6.heap.size, rfl, hle, _, Blk.new .., rfl⟩
    rintro _ ⟨w6, hf6, r, rfl, hr, _⟩
    simp (config := {maxSteps := 1000000}) only [↓zvN, zvU, ↓zqD, ↓h_cons, ↓hs_guard, ↓hs_none, ↓h_some, ↓hs_nil, ↓lookH_nil, ↓lookH_cons, ↓given_store, ↓up_apply, ↓hv_apply, ↓upO_some, ↓upO_none, ↓ev_tmp, ↓ev_const, ↓ev_func, ↓ev_global, init, Nat.reduceEqDiff, Nat.reduceAdd, Nat.reduceMul, Nat.reduceSub, ↓reduceIte, Int.reduceEq, Int.reduceNe, Nat.reduceLeDiff, one, Value.cells, Int.reduceLE, Int.reduceLT, Int.reduceToNat, add_mk, reduceCtorEq, List.mem_range'_1, true_and, and_true, and_false, false_and, Nat.reduceLT, Nat.reduceLeDiff, tyF]
    refine ⟨fun w7 hf7 hd7 => ?_, ?_⟩
    · obtain ⟨r', er, _, cs, hcs, hcl⟩ := hd7
      cases er
      refine st_all hcs rfl hcl (by intro u hu; simp at hu; rcases hu with rfl | rfl <;> rfl) fun w8 k1 k2 => ?_
      refine ⟨Fin.of_wr k1 hcs k2 hr, fun r1 h1 => ?_⟩
      cases h1
      exact k2
    rintro _ ⟨w7, hf7, _, _⟩
    rw [stop1]
    simp (config := {maxSteps := 1000000}) only [↓zvN, zvU, ↓zqD, ↓h_cons, ↓hs_guard, ↓hs_none, ↓h_some, ↓hs_nil, ↓lookH_nil, ↓lookH_cons, ↓given_store, ↓up_apply, ↓hv_apply, ↓upO_some, ↓upO_none, ↓ev_tmp, ↓ev_const, ↓ev_func, ↓ev_global, init, Nat.reduceEqDiff, Nat.reduceAdd, Nat.reduceMul, Nat.reduceSub, ↓reduceIte, Int.reduceEq, Int.reduceNe, Nat.reduceLeDiff, one, Value.cells, Int.reduceLE, Int.reduceLT, Int.reduceToNat, add_mk, reduceCtorEq, List.mem_range'_1, true_and, and_true, and_false, false_and, Nat.reduceLT, Nat.reduceLeDiff, tyF]
    intro w8 hf8 hd8
    have hb8 : Blk w8 r 108 [.int .i64 u.until_, .pointer (some ⟨u.q, 0, none⟩)] := (by
      first
      | exact hd8 r rfl
      | exact hd8.1 r rfl
      | exact hd8.2 r rfl
      | exact hd8.2.1 r rfl
      | exact hd8.2.2 r rfl)
    have hm8 : More w2 w8 := hf8.below
    try simp (config := {maxSteps := 1000000}) only [↓zvN, zvU, ↓up_apply, ↓hv_apply, ↓upO_some, ↓upO_none, ↓ev_tmp, ↓ev_const, ↓ev_func, ↓ev_global, init, Nat.reduceEqDiff, Nat.reduceAdd, Nat.reduceMul, Nat.reduceSub, ↓reduceIte, Int.reduceEq, Int.reduceNe, Nat.reduceLeDiff, one, Value.cells, Int.reduceLE, Int.reduceLT, Int.reduceToNat, add_mk, reduceCtorEq, List.mem_range'_1, true_and, and_true, and_false, false_and, Nat.reduceLT, Nat.reduceLeDiff, tyF, p_nil]
    have c1 : w8.cell? ⟨r, 1, none⟩ = some (.pointer (some ⟨u.q, 0, none⟩)) := by rw [hb8.cell]; rfl
    have hB8 := hB2.more hm8
    have hut := hB8.own.tok _ hu
    simp (config := {maxSteps := 1000000}) only [↓zvN, zvU, ↓up_apply, ↓hv_apply, ↓upO_some, ↓upO_none, ↓ev_tmp, ↓ev_const, ↓ev_func, ↓ev_global, init, Nat.reduceEqDiff, Nat.reduceAdd, Nat.reduceMul, Nat.reduceSub, ↓reduceIte, Int.reduceEq, Int.reduceNe, Nat.reduceLeDiff, one, Value.cells, Int.reduceLE, Int.reduceLT, Int.reduceToNat, add_mk, reduceCtorEq, List.mem_range'_1, true_and, and_true, and_false, false_and, Nat.reduceLT, Nat.reduceLeDiff, tyF, c1, emax]
    refine call_ok Try.call55 (token_take w8 u.q u.tok (max now 0) n hut.1 hut.2 (by omega) hn2) ?_
    rintro _ w9 ⟨rfl, hq9, bt9⟩
    simp (config := {maxSteps := 1000000}) only [↓zvN, zvU, ↓up_apply, ↓hv_apply, ↓upO_some, ↓upO_none, ↓ev_tmp, ↓ev_const, ↓ev_func, ↓ev_global, init, Nat.reduceEqDiff, Nat.reduceAdd, Nat.reduceMul, Nat.reduceSub, ↓reduceIte, Int.reduceEq, Int.reduceNe, Nat.reduceLeDiff, one, Value.cells, Int.reduceLE, Int.reduceLT, Int.reduceToNat, add_mk, reduceCtorEq, List.mem_range'_1, true_and, and_true, and_false, false_and, Nat.reduceLT, Nat.reduceLeDiff, tyF]
    have hus := hB8.own.sep _ hu
    refine ⟨rfl, ⟨bt9.blk hB8.box (fun h => hus.2.2 h.symm), ?_, ⟨?_, ?_, ?_⟩, hB8.ne, hB8.room_le, hB8.ok⟩, (hmo.trans (Mod.of_more hm8)).trans (Mod.mono bt9 fun k _ h => .inr ⟨_, (List.mem_filter.1 hu).1, h⟩)⟩
    · rw [ent_take]
      exact hB8.tab.mod bt9 (fun h => hus.1 h.symm) (fun h => hus.2.1 h.symm)
    · intro e he
      obtain ⟨d, hd, rfl⟩ := List.mem_map.1 he
      by_cases hdp : d.1 = p
      · have hdu : d.2 = u := SortedM.one hsrt (p := p) (by rw [← hdp]; exact hd) hu
        rw [if_pos hdp]
        simp only
        rw [hdu]
        exact ⟨hq9, TokM.take_ok hut.2 _ _⟩
      · rw [if_neg hdp]
        have hne : d.2.q ≠ u.q := fun h => hdp (by have := hB8.own.one d hd _ hu h; rw [this])
        exact ⟨bt9.blk (hB8.own.tok d hd).1 hne, (hB8.own.tok d hd).2⟩
    · intro e he
      obtain ⟨d, hd, rfl⟩ := List.mem_map.1 he
      have := hB8.own.sep d hd
      split <;> exact this
    · intro e he e' he' hq
      obtain ⟨d, hd, rfl⟩ := List.mem_map.1 he
      obtain ⟨d', hd', rfl⟩ := List.mem_map.1 he'
      have : d = d' := hB8.own.one d hd d' hd' (by split at hq <;> split at hq <;> exact hq)
      rw [this]
  · have hgn := get_none hin
    have hget := gets_none hB2 hp hgn
    have hcan : canB now n L p = false := by unfold canB; rw [hgn]
    have htl : takeL (sweepL now L) p (max now 0) n = sweepL now L := by
      unfold takeL
      conv => rhs; rw [← List.map_id (sweepL now L)]
      apply List.map_congr_left
      intro e he
      rw [if_neg (fun h => hin (mem_keys.2 ⟨e.2, by rw [← h]; exact he⟩))]
      rfl
    rw [hcan, htl]
    simp (config := {maxSteps := 1000000}) only [↓zvN, zvU, ↓up_apply, ↓hv_apply, ↓upO_some, ↓upO_none, ↓ev_tmp, ↓ev_const, ↓ev_func, ↓ev_global, init, Nat.reduceEqDiff, Nat.reduceAdd, Nat.reduceMul, Nat.reduceSub, ↓reduceIte, Int.reduceEq, Int.reduceNe, Nat.reduceLeDiff, one, Value.cells, Int.reduceLE, Int.reduceLT, Int.reduceToNat, add_mk, reduceCtorEq, List.mem_range'_1, true_and, and_true, and_false, false_and, Nat.reduceLT, Nat.reduceLeDiff, tyF]
    refine draw_finH 108 [.int .i64 0, .pointer none] 11 [[], [0], [0, 1], [0, 1, 2], [], [0, 1, 2, 3, 4], [0, 1, 2, 3, 4, 5], [0, 1, 2, 3, 4, 5, 6], [0, 1, 2, 3, 4, 5, 6], [], [0, 1, 2, 3, 4, 5, 6, 7, 9], [0, 1, 2, 3, 4, 5, 6, 7, 8, 9, 10]]
      [(5, fun _ v _ => v = .tuple #[.agg #[.int .i64 0, .pointer none], .bool false]), (9, fun _ v w' => EntF w2.heap.size v w'), (10, fun g _ w' => ∀ r, g[0]? = some (.pointer (some ⟨r, 0, none⟩)) → Blk w' r 108 [.int .i64 0, .pointer none])] mixed (by kernel_rfl) (by kernel_rfl) ?_ ?_
    · intro y hy g v a b hab
      simp only [List.mem_cons, List.not_mem_nil, or_false] at hy
      rcases hy with rfl | rfl | rfl
      · exact fun h => h
      · rintro ⟨r, rfl, h1, h2⟩
        exact ⟨r, rfl, h1, hab.some h2⟩
      · intro h r hr
        exact hab.done (h r hr)
    simp (config := {maxSteps := 1000000}) only [↓zvN, zvU, ↓zqD, ↓h_cons, ↓hs_guard, ↓hs_none, ↓h_some, ↓hs_nil, ↓lookH_nil, ↓lookH_cons, ↓given_store, ↓up_apply, ↓hv_apply, ↓upO_some, ↓upO_none, ↓ev_tmp, ↓ev_const, ↓ev_func, ↓ev_global, init, Nat.reduceEqDiff, Nat.reduceAdd, Nat.reduceMul, Nat.reduceSub, ↓reduceIte, Int.reduceEq, Int.reduceNe, Nat.reduceLeDiff, one, Value.cells, Int.reduceLE, Int.reduceLT, Int.reduceToNat, add_mk, reduceCtorEq, List.mem_range'_1, true_and, and_true, and_false, false_and, Nat.reduceLT, Nat.reduceLeDiff, tyF, cx2, lx2, v2, l2]
    refine ⟨fun w5 hf5 => ?_, ?_⟩
    · refine call_ok Try.call53 (hget w5 hf5.below) ?_
      rintro _ w6 ⟨rfl, hm6⟩
      simp (config := {maxSteps := 1000000}) only [↓zvN, zvU, ↓zqD, ↓h_cons, ↓hs_guard, ↓hs_none, ↓h_some, ↓hs_nil, ↓lookH_nil, ↓lookH_cons, ↓given_store, ↓up_apply, ↓hv_apply, ↓upO_some, ↓upO_none, ↓ev_tmp, ↓ev_const, ↓ev_func, ↓ev_global, init, Nat.reduceEqDiff, Nat.reduceAdd, Nat.reduceMul, Nat.reduceSub, ↓reduceIte, Int.reduceEq, Int.reduceNe, Nat.reduceLeDiff, one, Value.cells, Int.reduceLE, Int.reduceLT, Int.reduceToNat, add_mk, reduceCtorEq, List.mem_range'_1, true_and, and_true, and_false, false_and, Nat.reduceLT, Nat.reduceLeDiff, tyF]
      exact Fin.of_more hm6 hf5.below.size
    rintro _ ⟨w5, hf5, rfl⟩
    simp (config := {maxSteps := 1000000}) only [↓zvN, zvU, ↓zqD, ↓h_cons, ↓hs_guard, ↓hs_none, ↓h_some, ↓hs_nil, ↓lookH_nil, ↓lookH_cons, ↓given_store, ↓up_apply, ↓hv_apply, ↓upO_some, ↓upO_none, ↓ev_tmp, ↓ev_const, ↓ev_func, ↓ev_global, init, Nat.reduceEqDiff, Nat.reduceAdd, Nat.reduceMul, Nat.reduceSub, ↓reduceIte, Int.reduceEq, Int.reduceNe, Nat.reduceLeDiff, one, Value.cells, Int.reduceLE, Int.reduceLT, Int.reduceToNat, add_mk, reduceCtorEq, List.mem_range'_1, true_and, and_true, and_false, false_and, Nat.reduceLT, Nat.reduceLeDiff, tyF, zerEntry]
    refine ⟨fun w6 hf6 => ?_, ?_⟩
    · have hle := hf6.below.size
      have hmm := more_alloc w6 (.cells #[.int .i64 0, .pointer none] 108)
      exact ⟨Fin.of_more hmm hle, w6.heap.size, rfl, hle, _, Blk.new .., rfl⟩
    rintro _ ⟨w6, hf6, r, rfl, hr, _⟩
    simp (config := {maxSteps := 1000000}) only [↓zvN, zvU, ↓zqD, ↓h_cons, ↓hs_guard, ↓hs_none, ↓h_some, ↓hs_nil, ↓lookH_nil, ↓lookH_cons, ↓given_store, ↓up_apply, ↓hv_apply, ↓upO_some, ↓upO_none, ↓ev_tmp, ↓ev_const, ↓ev_func, ↓ev_global, init, Nat.reduceEqDiff, Nat.reduceAdd, Nat.reduceMul, Nat.reduceSub, ↓reduceIte, Int.reduceEq, Int.reduceNe, Nat.reduceLeDiff, one, Value.cells, Int.reduceLE, Int.reduceLT, Int.reduceToNat, add_mk, reduceCtorEq, List.mem_range'_1, true_and, and_true, and_false, false_and, Nat.reduceLT, Nat.reduceLeDiff, tyF]
    refine ⟨fun w7 hf7 hd7 => ?_, ?_⟩
    · obtain ⟨r', er, _, cs, hcs, hcl⟩ := hd7
      cases er
      refine st_all hcs rfl hcl (by intro u hu; simp at hu; rcases hu with rfl | rfl <;> rfl) fun w8 k1 k2 => ?_
      refine ⟨Fin.of_wr k1 hcs k2 hr, fun r1 h1 => ?_⟩
      cases h1
      exact k2
    rintro _ ⟨w7, hf7, _, _⟩
    rw [stop1]
    simp (config := {maxSteps := 1000000}) only [↓zvN, zvU, ↓zqD, ↓h_cons, ↓hs_guard, ↓hs_none, ↓h_some, ↓hs_nil, ↓lookH_nil, ↓lookH_cons, ↓given_store, ↓up_apply, ↓hv_apply, ↓upO_some, ↓upO_none, ↓ev_tmp, ↓ev_const, ↓ev_func, ↓ev_global, init, Nat.reduceEqDiff, Nat.reduceAdd, Nat.reduceMul, Nat.reduceSub, ↓reduceIte, Int.reduceEq, Int.reduceNe, Nat.reduceLeDiff, one, Value.cells, Int.reduceLE, Int.reduceLT, Int.reduceToNat, add_mk, reduceCtorEq, List.mem_range'_1, true_and, and_true, and_false, false_and, Nat.reduceLT, Nat.reduceLeDiff, tyF]
    intro w8 hf8 hd8
    have hb8 : Blk w8 r 108 [.int .i64 0, .pointer none] := (by
      first
      | exact hd8 r rfl
      | exact hd8.1 r rfl
      | exact hd8.2 r rfl
      | exact hd8.2.1 r rfl
      | exact hd8.2.2 r rfl)
    have hm8 : More w2 w8 := hf8.below
    try simp (config := {maxSteps := 1000000}) only [↓zvN, zvU, ↓up_apply, ↓hv_apply, ↓upO_some, ↓upO_none, ↓ev_tmp, ↓ev_const, ↓ev_func, ↓ev_global, init, Nat.reduceEqDiff, Nat.reduceAdd, Nat.reduceMul, Nat.reduceSub, ↓reduceIte, Int.reduceEq, Int.reduceNe, Nat.reduceLeDiff, one, Value.cells, Int.reduceLE, Int.reduceLT, Int.reduceToNat, add_mk, reduceCtorEq, List.mem_range'_1, true_and, and_true, and_false, false_and, Nat.reduceLT, Nat.reduceLeDiff, tyF, p_nil]
    exact ⟨rfl, hB2.more hm8, hmo.trans (Mod.of_more hm8)⟩
end Go.Proofs.Ytimhcjakpdebjaa
