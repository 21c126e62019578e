/-
  Layer 22: who is put in; a new box; nobody's box.
-/
import Derived.Test.YtimhcjakpdebjaaBoxB
namespace Go.Proofs.Ytimhcjakpdebjaa
open Go Go.RowKit Go.Proofs.RV
set_option linter.unusedSimpArgs false
set_option linter.unusedVariables false
set_option maxRecDepth 10000
set_option maxHeartbeats 4000000
def tok0 (rate burst : Int) : TokM := ⟨rate, burst * 1048576, burst * 1048576, 0⟩
def newE (now term rate burst : Int) (q : Nat) : BoxE := ⟨addM now term, q, (tok0 rate burst).take now 0⟩
theorem tok0_ok {rate burst : Int} (h : tokOk rate burst) : (tok0 rate burst).Ok := by
  have ⟨h1, h2, h3, h4⟩ := h
  exact ⟨h1, h2, by show 0 ≤ burst * 1048576; omega, by show burst * 1048576 ≤ 1125899906842624; omega, by show 0 ≤ burst * 1048576; omega, Int.le_refl _, Int.le_refl _⟩
def putCode (now : Int) (L : BoxL) (room : Nat) (p : PrefM) : Int := if p ∈ keysM (sweepL now L) then 7 else if (sweepL now L).length < room then 0 else 6
def putB (now : Int) (L : BoxL) (room : Nat) (p : PrefM) (e : BoxE) : BoxL := if p ∈ keysM (sweepL now L) then sweepL now L else if (sweepL now L).length < room then putL (sweepL now L) p e else sweepL now L
theorem box_put (w : World) (x b t room : Nat) (term rate burst : Int) (L : BoxL) (p : PrefM) (now : Int) (hp : p.addr.length = 7) (hB : BoxW w x b t room term rate burst L) (hn : now ≤ 9223372036854775807) :
    Ret Try.prog 32 #[.pointer (some ⟨x, 0, none⟩), .agg p.cells.toArray, .int .i64 now] w fun v w' => ∃ q, w.heap.size ≤ q ∧ v = .int .i64 (putCode now L room p) ∧ BoxW w' x b t room term rate burst (putB now L room p (newE now term rate burst q)) ∧ Mod (two b t) w w' := by
  refine ret_of Try.func32 rfl (by kernel_rfl) (Nat.le_of_ble_eq_true (by kernel_rfl)) ?_
  have hm1 := more_alloc w (.cells p.cells.toArray 24)
  have hb1 := Blk.new w 24 p.cells.toArray
  simp (config := {maxSteps := 1000000}) only [↓zvN, zvU, ↓up_apply, ↓hv_apply, ↓upO_some, ↓upO_none, ↓ev_tmp, ↓ev_const, ↓ev_func, ↓ev_global, init, Nat.reduceEqDiff, Nat.reduceAdd, Nat.reduceMul, Nat.reduceSub, ↓reduceIte, Int.reduceEq, Int.reduceNe, Nat.reduceLeDiff, one, Value.cells, Int.reduceLE, Int.reduceLT, Int.reduceToNat, add_mk, reduceCtorEq, List.mem_range'_1, true_and, and_true, and_false, false_and, Nat.reduceLT, Nat.reduceLeDiff, tyF]
  obtain ⟨w1, hw1⟩ : ∃ w1, w.alloc (.cells p.cells.toArray 24) = w1 := ⟨_, rfl⟩
  rw [hw1] at hm1 hb1 ⊢
  clear hw1
  rw [List.toList_toArray] at hb1
  have hpb2 : ¬ two b t w.heap.size := by have := hB.tab.lt; rintro (h | h) <;> omega
  obtain ⟨pb, hpb⟩ : ∃ q, w.heap.size = q := ⟨_, rfl⟩
  rw [hpb] at hb1 hpb2 ⊢
  have h8 : p.cells.length = 8 := by simp [PrefM.cells, hp]
  try simp (config := {maxSteps := 1000000}) only [↓zvN, zvU, ↓up_apply, ↓hv_apply, ↓upO_some, ↓upO_none, ↓ev_tmp, ↓ev_const, ↓ev_func, ↓ev_global, init, Nat.reduceEqDiff, Nat.reduceAdd, Nat.reduceMul, Nat.reduceSub, ↓reduceIte, Int.reduceEq, Int.reduceNe, Nat.reduceLeDiff, one, Value.cells, Int.reduceLE, Int.reduceLT, Int.reduceToNat, add_mk, reduceCtorEq, List.mem_range'_1, true_and, and_true, and_false, false_and, Nat.reduceLT, Nat.reduceLeDiff, tyF]
  refine call_ok Try.call52 (box_sweep w1 x b t room term rate burst L now (hB.more hm1)) ?_
  rintro _ w2 ⟨rfl, hB2, hm2⟩
  have hb2 := hm2.blk hb1 hpb2
  have cx2 := hB2.box.cell 0
  simp only [List.getElem?_cons_zero] at cx2
  have lx2 := hB2.box.lt
  have v2 := hb2.all_eq 8 h8
  have l2 := hb2.lt
  have hsrt := hB2.sorted
  have hmm2 : Mod (two b t) w w2 := (Mod.of_more hm1).trans hm2
  by_cases hin : p ∈ keysM (sweepL now L)
  · obtain ⟨u, hu⟩ := mem_keys.1 hin
    have hget := gets_some hB2 hp (get_some hsrt hu)
    have hcode : putCode now L room p = 7 := by unfold putCode; rw [if_pos hin]
    have hput : ∀ e, putB now L room p e = sweepL now L := fun e => by unfold putB; rw [if_pos hin]
    simp (config := {maxSteps := 1000000}) only [↓zvN, zvU, ↓up_apply, ↓hv_apply, ↓upO_some, ↓upO_none, ↓ev_tmp, ↓ev_const, ↓ev_func, ↓ev_global, init, Nat.reduceEqDiff, Nat.reduceAdd, Nat.reduceMul, Nat.reduceSub, ↓reduceIte, Int.reduceEq, Int.reduceNe, Nat.reduceLeDiff, one, Value.cells, Int.reduceLE, Int.reduceLT, Int.reduceToNat, add_mk, reduceCtorEq, List.mem_range'_1, true_and, and_true, and_false, false_and, Nat.reduceLT, Nat.reduceLeDiff, tyF]
    refine draw_finH 108 [.int .i64 u.until_, .pointer (some ⟨u.q, 0, none⟩)] 11 [[], [0], [0, 1], [0, 1, 2], [], [0, 1, 2, 3, 4], [0, 1, 2, 3, 4, 5], [0, 1, 2, 3, 4, 5, 6], [0, 1, 2, 3, 4, 5, 6], [], [0, 1, 2, 3, 4, 5, 6, 7, 9], [0, 1, 2, 3, 4, 5, 6, 7, 8, 9, 10]]
      [(5, fun _ v _ => v = .tuple #[.agg #[.int .i64 u.until_, .pointer (some ⟨u.q, 0, none⟩)], .bool true]), (9, fun _ v w' => EntF w2.heap.size v w'), (10, fun g _ w' => ∀ r, g[0]? = some (.pointer (some ⟨r, 0, none⟩)) → Blk w' r 108 [.int .i64 u.until_, .pointer (some ⟨u.q, 0, none⟩)])] mixed (by kernel_rfl) (by kernel_rfl) ?_ ?_
    · intro y hy g v a b hab
      simp only [List.mem_cons, List.not_mem_nil, or_false] at hy
      rcases hy with rfl | rfl | rfl
      · exact fun h => h
      · rintro ⟨r, rfl, h1, h2⟩
        exact ⟨r, rfl, h1, hab.some h2⟩
      · intro h r hr
        exact hab.done (h r hr)
    simp (config := {maxSteps := 1000000}) only [↓zvN, zvU, ↓zqD, ↓h_cons, ↓hs_guard, ↓hs_none, ↓h_some, ↓hs_nil, ↓lookH_nil, ↓lookH_cons, ↓given_store, ↓up_apply, ↓hv_apply, ↓upO_some, ↓upO_none, ↓ev_tmp, ↓ev_const, ↓ev_func, ↓ev_global, init, Nat.reduceEqDiff, Nat.reduceAdd, Nat.reduceMul, Nat.reduceSub, ↓reduceIte, Int.reduceEq, Int.reduceNe, Nat.reduceLeDiff, one, Value.cells, Int.reduceLE, Int.reduceLT, Int.reduceToNat, add_mk, reduceCtorEq, List.mem_range'_1, true_and, and_true, and_false, false_and, Nat.reduceLT, Nat.reduceLeDiff, tyF, cx2, lx2, v2, l2]
    refine ⟨fun w5 hf5 => ?_, ?_⟩
    · refine call_ok Try.call53 (hget w5 hf5.below) ?_
      rintro _ w6 ⟨rfl, hm6⟩
      simp (config := {maxSteps := 1000000}) only [↓zvN, zvU, ↓zqD, ↓h_cons, ↓hs_guard, ↓hs_none, ↓h_some, ↓hs_nil, ↓lookH_nil, ↓lookH_cons, ↓given_store, ↓up_apply, ↓hv_apply, ↓upO_some, ↓upO_none, ↓ev_tmp, ↓ev_const, ↓ev_func, ↓ev_global, init, Nat.reduceEqDiff, Nat.reduceAdd, Nat.reduceMul, Nat.reduceSub, ↓reduceIte, Int.reduceEq, Int.reduceNe, Nat.reduceLeDiff, one, Value.cells, Int.reduceLE, Int.reduceLT, Int.reduceToNat, add_mk, reduceCtorEq, List.mem_range'_1, true_and, and_true, and_false, false_and, Nat.reduceLT, Nat.reduceLeDiff, tyF]
      exact Fin.of_more hm6 hf5.below.size
    rintro _ ⟨w5, hf5, rfl⟩
    simp (config := {maxSteps := 1000000}) only [↓zvN, zvU, ↓zqD, ↓h_cons, ↓hs_guard, ↓hs_none, ↓h_some, ↓hs_nil, ↓lookH_nil, ↓lookH_cons, ↓given_store, ↓up_apply, ↓hv_apply, ↓upO_some, ↓upO_none, ↓ev_tmp, ↓ev_const, ↓ev_func, ↓ev_global, init, Nat.reduceEqDiff, Nat.reduceAdd, Nat.reduceMul, Nat.reduceSub, ↓reduceIte, Int.reduceEq, Int.reduceNe, Nat.reduceLeDiff, one, Value.cells, Int.reduceLE, Int.reduceLT, Int.reduceToNat, add_mk, reduceCtorEq, List.mem_range'_1, true_and, and_true, and_false, false_and, Nat.reduceLT, Nat.reduceLeDiff, tyF, zerEntry]
    refine ⟨fun w6 hf6 => ?_, ?_⟩
    · have hle := hf6.below.size
      have hmm := more_alloc w6 (.cells #[.int .i64 0, .pointer none] 108)
      exact ⟨Fin.of_more hmm hle, w6.heap.size, rfl, hle, _, Blk.new .., rfl⟩
    rintro _ ⟨w6, hf6, r, rfl, hr, _⟩
    simp (config := {maxSteps := 1000000}) only [↓zvN, zvU, ↓zqD, ↓h_cons, ↓hs_guard, ↓hs_none, ↓h_some, ↓hs_nil, ↓lookH_nil, ↓lookH_cons, ↓given_store, ↓up_apply, ↓hv_apply, ↓upO_some, ↓upO_none, ↓ev_tmp, ↓ev_const, ↓ev_func, ↓ev_global, init, Nat.reduceEqDiff, Nat.reduceAdd, Nat.reduceMul, Nat.reduceSub, ↓reduceIte, Int.reduceEq, Int.reduceNe, Nat.reduceLeDiff, one, Value.cells, Int.reduceLE, Int.reduceLT, Int.reduceToNat, add_mk, reduceCtorEq, List.mem_range'_1, true_and, and_true, and_false, false_and, Nat.reduceLT, Nat.reduceLeDiff, tyF]
    refine ⟨fun w7 hf7 hd7 => ?_, ?_⟩
    · obtain ⟨r', er, _, cs, hcs, hcl⟩ := hd7
      cases er
      refine st_all hcs rfl hcl (by intro u hu; simp at hu; rcases hu with rfl | rfl <;> rfl) fun w8 k1 k2 => ?_
      refine ⟨Fin.of_wr k1 hcs k2 hr, fun r1 h1 => ?_⟩
      cases h1
      exact k2
    rintro _ ⟨w7, hf7, _, _⟩
    rw [stop1]
    simp (config := {maxSteps := 1000000}) only [↓zvN, zvU, ↓zqD, ↓h_cons, ↓hs_guard, ↓hs_none, ↓h_some, ↓hs_nil, ↓lookH_nil, ↓lookH_cons, ↓given_store, ↓up_apply, ↓hv_apply, ↓upO_some, ↓upO_none, ↓ev_tmp, ↓ev_const, ↓ev_func, ↓ev_global, init, Nat.reduceEqDiff, Nat.reduceAdd, Nat.reduceMul, Nat.reduceSub, ↓reduceIte, Int.reduceEq, Int.reduceNe, Nat.reduceLeDiff, one, Value.cells, Int.reduceLE, Int.reduceLT, Int.reduceToNat, add_mk, reduceCtorEq, List.mem_range'_1, true_and, and_true, and_false, false_and, Nat.reduceLT, Nat.reduceLeDiff, tyF]
    intro w8 hf8 hd8
    have hb8 : Blk w8 r 108 [.int .i64 u.until_, .pointer (some ⟨u.q, 0, none⟩)] := (by
      first
      | exact hd8 r rfl
      | exact hd8.1 r rfl
      | exact hd8.2 r rfl
      | exact hd8.2.1 r rfl
      | exact hd8.2.2 r rfl)
    have hm8 : More w2 w8 := hf8.below
    try simp (config := {maxSteps := 1000000}) only [↓zvN, zvU, ↓up_apply, ↓hv_apply, ↓upO_some, ↓upO_none, ↓ev_tmp, ↓ev_const, ↓ev_func, ↓ev_global, init, Nat.reduceEqDiff, Nat.reduceAdd, Nat.reduceMul, Nat.reduceSub, ↓reduceIte, Int.reduceEq, Int.reduceNe, Nat.reduceLeDiff, one, Value.cells, Int.reduceLE, Int.reduceLT, Int.reduceToNat, add_mk, reduceCtorEq, List.mem_range'_1, true_and, and_true, and_false, false_and, Nat.reduceLT, Nat.reduceLeDiff, tyF, p_nil]
    exact ⟨pb, Nat.le_refl _, by rw [hcode]; rfl, by rw [hput]; exact hB2.more hm8, hmm2.trans (Mod.of_more hm8)⟩
  have hget := gets_none hB2 hp (get_none hin)
  simp (config := {maxSteps := 1000000}) only [↓zvN, zvU, ↓up_apply, ↓hv_apply, ↓upO_some, ↓upO_none, ↓ev_tmp, ↓ev_const, ↓ev_func, ↓ev_global, init, Nat.reduceEqDiff, Nat.reduceAdd, Nat.reduceMul, Nat.reduceSub, ↓reduceIte, Int.reduceEq, Int.reduceNe, Nat.reduceLeDiff, one, Value.cells, Int.reduceLE, Int.reduceLT, Int.reduceToNat, add_mk, reduceCtorEq, List.mem_range'_1, true_and, and_true, and_false, false_and, Nat.reduceLT, Nat.reduceLeDiff, tyF]
  refine draw_name fun K hK => ?_
  refine draw_finH 108 [.int .i64 0, .pointer none] 11 [[], [0], [0, 1], [0, 1, 2], [], [0, 1, 2, 3, 4], [0, 1, 2, 3, 4, 5], [0, 1, 2, 3, 4, 5, 6], [0, 1, 2, 3, 4, 5, 6], [], [0, 1, 2, 3, 4, 5, 6, 7, 9], [0, 1, 2, 3, 4, 5, 6, 7, 8, 9, 10]]
    [(5, fun _ v _ => v = .tuple #[.agg #[.int .i64 0, .pointer none], .bool false]), (9, fun _ v w' => EntF w2.heap.size v w'), (10, fun g _ w' => ∀ r, g[0]? = some (.pointer (some ⟨r, 0, none⟩)) → Blk w' r 108 [.int .i64 0, .pointer none])] mixed (by kernel_rfl) (by kernel_rfl) ?_ ?_
  · intro y hy g v a b hab
    simp only [List.mem_cons, List.not_mem_nil, or_false] at hy
    rcases hy with rfl | rfl | rfl
    · exact fun h => h
    · rintro ⟨r, rfl, h1, h2⟩
      exact ⟨r, rfl, h1, hab.some h2⟩
    · intro h r hr
      exact hab.done (h r hr)
  simp (config := {maxSteps := 1000000}) only [↓zvN, zvU, ↓zqD, ↓h_cons, ↓hs_guard, ↓hs_none, ↓h_some, ↓hs_nil, ↓lookH_nil, ↓lookH_cons, ↓given_store, ↓up_apply, ↓hv_apply, ↓upO_some, ↓upO_none, ↓ev_tmp, ↓ev_const, ↓ev_func, ↓ev_global, init, Nat.reduceEqDiff, Nat.reduceAdd, Nat.reduceMul, Nat.reduceSub, ↓reduceIte, Int.reduceEq, Int.reduceNe, Nat.reduceLeDiff, one, Value.cells, Int.reduceLE, Int.reduceLT, Int.reduceToNat, add_mk, reduceCtorEq, List.mem_range'_1, true_and, and_true, and_false, false_and, Nat.reduceLT, Nat.reduceLeDiff, tyF, cx2, lx2, v2, l2]
  refine ⟨fun w5 hf5 => ?_, ?_⟩
  · refine call_ok Try.call53 (hget w5 hf5.below) ?_
    rintro _ w6 ⟨rfl, hm6⟩
    simp (config := {maxSteps := 1000000}) only [↓zvN, zvU, ↓zqD, ↓h_cons, ↓hs_guard, ↓hs_none, ↓h_some, ↓hs_nil, ↓lookH_nil, ↓lookH_cons, ↓given_store, ↓up_apply, ↓hv_apply, ↓upO_some, ↓upO_none, ↓ev_tmp, ↓ev_const, ↓ev_func, ↓ev_global, init, Nat.reduceEqDiff, Nat.reduceAdd, Nat.reduceMul, Nat.reduceSub, ↓reduceIte, Int.reduceEq, Int.reduceNe, Nat.reduceLeDiff, one, Value.cells, Int.reduceLE, Int.reduceLT, Int.reduceToNat, add_mk, reduceCtorEq, List.mem_range'_1, true_and, and_true, and_false, false_and, Nat.reduceLT, Nat.reduceLeDiff, tyF]
    exact Fin.of_more hm6 hf5.below.size
  rintro _ ⟨w5, hf5, rfl⟩
  simp (config := {maxSteps := 1000000}) only [↓zvN, zvU, ↓zqD, ↓h_cons, ↓hs_guard, ↓hs_none, ↓h_some, ↓hs_nil, ↓lookH_nil, ↓lookH_cons, ↓given_store, ↓up_apply, ↓hv_apply, ↓upO_some, ↓upO_none, ↓ev_tmp, ↓ev_const, ↓ev_func, ↓ev_global, init, Nat.reduceEqDiff, Nat.reduceAdd, Nat.reduceMul, Nat.reduceSub, ↓reduceIte, Int.reduceEq, Int.reduceNe, Nat.reduceLeDiff, one, Value.cells, Int.reduceLE, Int.reduceLT, Int.reduceToNat, add_mk, reduceCtorEq, List.mem_range'_1, true_and, and_true, and_false, false_and, Nat.reduceLT, Nat.reduceLeDiff, tyF, zerEntry]
  refine ⟨fun w6 hf6 => ?_, ?_⟩
  · have hle := hf6.below.size
    have hmm := more_alloc w6 (.cells #[.int .i64 0, .pointer none] 108)
    exact ⟨Fin.of_more hmm hle, w6.heap.size, rfl, hle, _, Blk.new .., rfl⟩
  rintro _ ⟨w6, hf6, r, rfl, hr, _⟩
  simp (config := {maxSteps := 1000000}) only [↓zvN, zvU, ↓zqD, ↓h_cons, ↓hs_guard, ↓hs_none, ↓h_some, ↓hs_nil, ↓lookH_nil, ↓lookH_cons, ↓given_store, ↓up_apply, ↓hv_apply, ↓upO_some, ↓upO_none, ↓ev_tmp, ↓ev_const, ↓ev_func, ↓ev_global, init, Nat.reduceEqDiff, Nat.reduceAdd, Nat.reduceMul, Nat.reduceSub, ↓reduceIte, Int.reduceEq, Int.reduceNe, Nat.reduceLeDiff, one, Value.cells, Int.reduceLE, Int.reduceLT, Int.reduceToNat, add_mk, reduceCtorEq, List.mem_range'_1, true_and, and_true, and_false, false_and, Nat.reduceLT, Nat.reduceLeDiff, tyF]
  refine ⟨fun w7 hf7 hd7 => ?_, ?_⟩
  · obtain ⟨r', er, _, cs, hcs, hcl⟩ := hd7
    cases er
    refine st_all hcs rfl hcl (by intro u hu; simp at hu; rcases hu with rfl | rfl <;> rfl) fun w8 k1 k2 => ?_
    refine ⟨Fin.of_wr k1 hcs k2 hr, fun r1 h1 => ?_⟩
    cases h1
    exact k2
  rintro _ ⟨w7, hf7, _, _⟩
  rw [stop1]
  simp (config := {maxSteps := 1000000}) only [↓zvN, zvU, ↓zqD, ↓h_cons, ↓hs_guard, ↓hs_none, ↓h_some, ↓hs_nil, ↓lookH_nil, ↓lookH_cons, ↓given_store, ↓up_apply, ↓hv_apply, ↓upO_some, ↓upO_none, ↓ev_tmp, ↓ev_const, ↓ev_func, ↓ev_global, init, Nat.reduceEqDiff, Nat.reduceAdd, Nat.reduceMul, Nat.reduceSub, ↓reduceIte, Int.reduceEq, Int.reduceNe, Nat.reduceLeDiff, one, Value.cells, Int.reduceLE, Int.reduceLT, Int.reduceToNat, add_mk, reduceCtorEq, List.mem_range'_1, true_and, and_true, and_false, false_and, Nat.reduceLT, Nat.reduceLeDiff, tyF]
  intro w8 hf8 hd8
  have hb8 : Blk w8 r 108 [.int .i64 0, .pointer none] := (by
    first
    | exact hd8 r rfl
    | exact hd8.1 r rfl
    | exact hd8.2 r rfl
    | exact hd8.2.1 r rfl
    | exact hd8.2.2 r rfl)
  have hm8 : More w2 w8 := hf8.below
  try simp (config := {maxSteps := 1000000}) only [↓zvN, zvU, ↓up_apply, ↓hv_apply, ↓upO_some, ↓upO_none, ↓ev_tmp, ↓ev_const, ↓ev_func, ↓ev_global, init, Nat.reduceEqDiff, Nat.reduceAdd, Nat.reduceMul, Nat.reduceSub, ↓reduceIte, Int.reduceEq, Int.reduceNe, Nat.reduceLeDiff, one, Value.cells, Int.reduceLE, Int.reduceLT, Int.reduceToNat, add_mk, reduceCtorEq, List.mem_range'_1, true_and, and_true, and_false, false_and, Nat.reduceLT, Nat.reduceLeDiff, tyF, p_nil]
  refine hK _ _ ?_
  clear hK K
  have hB8 := hB2.more hm8
  have hok := hB8.ok
  have d0 := hB8.box.cell 0
  have d1 := hB8.box.cell 1
  have d2 := hB8.box.cell 2
  have d3 := hB8.box.cell 3
  simp only [List.getElem?_cons_zero, List.getElem?_cons_succ] at d0 d1 d2 d3
  simp (config := {maxSteps := 1000000}) only [↓zvN, zvU, ↓up_apply, ↓hv_apply, ↓upO_some, ↓upO_none, ↓ev_tmp, ↓ev_const, ↓ev_func, ↓ev_global, init, Nat.reduceEqDiff, Nat.reduceAdd, Nat.reduceMul, Nat.reduceSub, ↓reduceIte, Int.reduceEq, Int.reduceNe, Nat.reduceLeDiff, one, Value.cells, Int.reduceLE, Int.reduceLT, Int.reduceToNat, add_mk, reduceCtorEq, List.mem_range'_1, true_and, and_true, and_false, false_and, Nat.reduceLT, Nat.reduceLeDiff, tyF, d1]
  refine bslice (z := .int .i64 0) (cells := #[.int .i64 now, .int .i64 term]) Try.underlying69 int64E2 (by omega) (by have := bcells_list (z := .int .i64 0) [.int .i64 now, .int .i64 term] (by intro v hv; simp at hv; rcases hv with rfl | rfl <;> rfl); exact this) ?_
  have hm9 := more_alloc w8 (.cells #[.int .i64 now, .int .i64 term] 2)
  have hb9 := Blk.new w8 2 #[.int .i64 now, .int .i64 term]
  obtain ⟨w9, hw9⟩ : ∃ w9, w8.alloc (.cells #[.int .i64 now, .int .i64 term] 2) = w9 := ⟨_, rfl⟩
  rw [hw9] at hm9 hb9 ⊢
  clear hw9
  simp (config := {maxSteps := 1000000}) only [↓zvN, zvU, ↓up_apply, ↓hv_apply, ↓upO_some, ↓upO_none, ↓ev_tmp, ↓ev_const, ↓ev_func, ↓ev_global, init, Nat.reduceEqDiff, Nat.reduceAdd, Nat.reduceMul, Nat.reduceSub, ↓reduceIte, Int.reduceEq, Int.reduceNe, Nat.reduceLeDiff, one, Value.cells, Int.reduceLE, Int.reduceLT, Int.reduceToNat, add_mk, reduceCtorEq, List.mem_range'_1, true_and, and_true, and_false, false_and, Nat.reduceLT, Nat.reduceLeDiff, tyF]
  refine call_ok Try.call54 (num_add w9 now term _ hb9) ?_
  rintro _ w10 ⟨rfl, rfl⟩
  have bd : ∀ (y : Int) (K : Value → Prop), pureP Try.prog (Instr.build 108 #[(0, .int .i64 y)]) K = K (.agg #[.int .i64 y, .pointer none]) := fun y K => build_of [.int .i64 y, .pointer none] (by kernel_rfl) zerEntry (by kernel_rfl) w10 K
  have hnew : ∀ q, newE now term rate burst q = ⟨addM now term, q, (tok0 rate burst).take now 0⟩ := fun q => rfl
  obtain ⟨un, hun⟩ : ∃ un, addM now term = un := ⟨_, rfl⟩
  rw [hun] at hnew ⊢
  simp (config := {maxSteps := 1000000}) only [↓zvN, zvU, ↓up_apply, ↓hv_apply, ↓upO_some, ↓upO_none, ↓ev_tmp, ↓ev_const, ↓ev_func, ↓ev_global, init, Nat.reduceEqDiff, Nat.reduceAdd, Nat.reduceMul, Nat.reduceSub, ↓reduceIte, Int.reduceEq, Int.reduceNe, Nat.reduceLeDiff, one, Value.cells, Int.reduceLE, Int.reduceLT, Int.reduceToNat, add_mk, reduceCtorEq, List.mem_range'_1, true_and, and_true, and_false, false_and, Nat.reduceLT, Nat.reduceLeDiff, tyF, bd, zerEntry]
  have hm11 := more_alloc w10 (.cells #[.int .i64 0, .pointer none] 108)
  have hb11 := Blk.new w10 108 #[.int .i64 0, .pointer none]
  obtain ⟨w11, hw11⟩ : ∃ w11, w10.alloc (.cells #[.int .i64 0, .pointer none] 108) = w11 := ⟨_, rfl⟩
  rw [hw11] at hm11 hb11 ⊢
  clear hw11
  refine st_all hb11 rfl rfl (by intro u hu; simp at hu; rcases hu with rfl | rfl <;> rfl) fun w12 i1 i2 => ?_
  rw [s2_undef]
  have hm12 : More w10 w12 := more_but hm11 (But.of_wr i1) (Nat.le_refl _)
  have hlo : w.heap.size ≤ w10.heap.size := by have := hmm2.size; have := hm8.size; have := hm9.size; omega
  obtain ⟨eb, heb⟩ : ∃ q, w10.heap.size = q := ⟨_, rfl⟩
  rw [heb] at i2 hlo ⊢
  have hB12 := (hB8.more hm9).more hm12
  have hxe : x < eb := by rw [← heb]; exact (hB8.more hm9).box.lt
  have hbte : b < eb ∧ t < eb := by rw [← heb]; exact (hB8.more hm9).tab.lt
  have hpe : pb < eb := by rw [← heb]; exact ((hb2.more hm8).more hm9).lt
  have hb12 := ((hb2.more hm8).more hm9).more hm12
  have hqe : ∀ e ∈ sweepL now L, e.2.q < eb := fun e he => by rw [← heb]; exact ((hB8.more hm9).own.tok e he).1.lt
  have d0 := hB12.box.cell 0
  have d2 := hB12.box.cell 2
  have d3 := hB12.box.cell 3
  simp only [List.getElem?_cons_zero, List.getElem?_cons_succ] at d0 d2 d3
  have hel : eb < w12.heap.size := i2.lt
  simp (config := {maxSteps := 1000000}) only [↓zvN, zvU, ↓up_apply, ↓hv_apply, ↓upO_some, ↓upO_none, ↓ev_tmp, ↓ev_const, ↓ev_func, ↓ev_global, init, Nat.reduceEqDiff, Nat.reduceAdd, Nat.reduceMul, Nat.reduceSub, ↓reduceIte, Int.reduceEq, Int.reduceNe, Nat.reduceLeDiff, one, Value.cells, Int.reduceLE, Int.reduceLT, Int.reduceToNat, add_mk, reduceCtorEq, List.mem_range'_1, true_and, and_true, and_false, false_and, Nat.reduceLT, Nat.reduceLeDiff, tyF]
  refine draw_name fun K hK => ?_
  refine draw_line eb (KeepF eb fun _ => False) [0, 0, 0, 0, 0, 0, 0, 0, 1, 0, 0, 0, 0, 1] [[], [0], [0, 1], [0, 1, 2], [], [4], [4, 5], [4, 5, 6], [0, 1, 2, 3, 4, 5, 6, 7], [0, 1, 2, 3, 4, 5, 6, 7, 8], [0, 1, 2, 3, 4, 5, 6, 7, 8, 9], [0, 1, 2, 3, 4, 5, 6, 7, 8, 9], [0, 1, 2, 3, 4, 5, 6, 7, 8, 9, 10], [0, 1, 2, 3, 4, 5, 6, 7, 8, 9, 10, 12]] mixed (by kernel_rfl) (by kernel_rfl) (KeepF.refl _ _ _) (fun w' h => KeepF.of_more h (by omega) (fun _ h => h.elim)) (fun w' h => h.1) ?_
  intro w13 hm13
  simp (config := {maxSteps := 1000000}) only [↓zvN, zvU, ↓zqD, ↓sk_nil, ↓sk_cons, ↓sk_guard, ↓sk_zero, ↓sk_one, ↓sk_two, ↓up_apply, ↓hv_apply, ↓upO_some, ↓upO_none, ↓ev_tmp, ↓ev_const, ↓ev_func, ↓ev_global, init, Nat.reduceEqDiff, Nat.reduceAdd, Nat.reduceMul, Nat.reduceSub, ↓reduceIte, Int.reduceEq, Int.reduceNe, Nat.reduceLeDiff, one, Value.cells, Int.reduceLE, Int.reduceLT, Int.reduceToNat, add_mk, reduceCtorEq, List.mem_range'_1, true_and, and_true, and_false, false_and, Nat.reduceLT, Nat.reduceLeDiff, tyF, d2, d3, hxe]
  refine call_ok Try.call51 (token_new w13 rate burst) ?_
  rintro _ w14 ⟨hm14, hyes, _⟩
  obtain ⟨q, rfl, hq, hqb⟩ := hyes hok.2.2
  replace hqb : Blk w14 q 137 (tok0 rate burst).cells := hqb
  have hm1214 := hm13.trans hm14
  have hqeb : eb < q := by have := hm13.size; omega
  simp (config := {maxSteps := 1000000}) only [↓zvN, zvU, ↓zqD, ↓sk_nil, ↓sk_cons, ↓sk_guard, ↓sk_zero, ↓sk_one, ↓sk_two, ↓up_apply, ↓hv_apply, ↓upO_some, ↓upO_none, ↓ev_tmp, ↓ev_const, ↓ev_func, ↓ev_global, init, Nat.reduceEqDiff, Nat.reduceAdd, Nat.reduceMul, Nat.reduceSub, ↓reduceIte, Int.reduceEq, Int.reduceNe, Nat.reduceLeDiff, one, Value.cells, Int.reduceLE, Int.reduceLT, Int.reduceToNat, add_mk, reduceCtorEq, List.mem_range'_1, true_and, and_true, and_false, false_and, Nat.reduceLT, Nat.reduceLeDiff, tyF]
  have hk14 : KeepF eb (fun _ => False) w12 w14 := KeepF.of_more hm1214 (by omega) (fun _ h => h.elim)
  refine ⟨hk14, ?_⟩
  refine st_cell (i2.more hm1214) (by simp) rfl fun w15 k1 k2 => ?_
  rw [s2_undef]
  have hk15 : KeepF eb (fun _ => False) w12 w15 := ⟨hk14.1.trans (k1.below (Below.refl _ _) (Nat.le_refl _)), fun _ h => h.elim⟩
  refine ⟨hk15, ?_⟩
  try simp (config := {maxSteps := 1000000}) only [↓zvN, zvU, ↓zqD, ↓sk_nil, ↓sk_cons, ↓sk_guard, ↓sk_zero, ↓sk_one, ↓sk_two, ↓up_apply, ↓hv_apply, ↓upO_some, ↓upO_none, ↓ev_tmp, ↓ev_const, ↓ev_func, ↓ev_global, init, Nat.reduceEqDiff, Nat.reduceAdd, Nat.reduceMul, Nat.reduceSub, ↓reduceIte, Int.reduceEq, Int.reduceNe, Nat.reduceLeDiff, one, Value.cells, Int.reduceLE, Int.reduceLT, Int.reduceToNat, add_mk, reduceCtorEq, List.mem_range'_1, true_and, and_true, and_false, false_and, Nat.reduceLT, Nat.reduceLeDiff, tyF]
  refine hK _ _ ?_
  clear hK K
  have hB15 : BoxW w15 x b t room term rate burst (sweepL now L) := by
    have h := hB12.more hm1214
    have bt := But.of_wr k1
    exact ⟨bt.blk h.box (by omega), h.tab.mod bt (by omega) (by omega), h.own.mod bt (fun e he => by have := hqe e he; omega), h.ne, h.room_le, h.ok⟩
  replace k2 : Blk w15 eb 108 [.int .i64 un, .pointer (some ⟨q, 0, none⟩)] := k2
  have hq15 := (But.of_wr k1).blk hqb (by omega)
  have hb15 := (But.of_wr k1).blk (hb12.more hm1214) (by omega)
  have c1 : w15.cell? ⟨eb, 1, none⟩ = some (.pointer (some ⟨q, 0, none⟩)) := by rw [k2.cell]; rfl
  have htok := tok0_ok hok.2.2
  simp (config := {maxSteps := 1000000}) only [↓zvN, zvU, ↓up_apply, ↓hv_apply, ↓upO_some, ↓upO_none, ↓ev_tmp, ↓ev_const, ↓ev_func, ↓ev_global, init, Nat.reduceEqDiff, Nat.reduceAdd, Nat.reduceMul, Nat.reduceSub, ↓reduceIte, Int.reduceEq, Int.reduceNe, Nat.reduceLeDiff, one, Value.cells, Int.reduceLE, Int.reduceLT, Int.reduceToNat, add_mk, reduceCtorEq, List.mem_range'_1, true_and, and_true, and_false, false_and, Nat.reduceLT, Nat.reduceLeDiff, tyF, c1]
  refine call_ok Try.call55 (token_take w15 q (tok0 rate burst) now 0 hq15 htok hn (by omega)) ?_
  rintro _ w16 ⟨rfl, hq16, bt16⟩
  have hB16 : BoxW w16 x b t room term rate burst (sweepL now L) :=
    ⟨bt16.blk hB15.box (by omega), hB15.tab.mod bt16 (by omega) (by omega), hB15.own.mod bt16 (fun e he => by have := hqe e he; omega), hB15.ne, hB15.room_le, hB15.ok⟩
  have k16 := bt16.blk k2 (by omega)
  have hb16 := bt16.blk hb15 (by omega)
  have d0 := hB16.box.cell 0
  simp only [List.getElem?_cons_zero, List.getElem?_cons_succ] at d0
  have lx := hB16.box.lt
  have v16 := hb16.all_eq 8 h8
  have l16 := hb16.lt
  have ve := k16.all_eq 2 rfl
  have le := k16.lt
  simp (config := {maxSteps := 1000000}) only [↓zvN, zvU, ↓up_apply, ↓hv_apply, ↓upO_some, ↓upO_none, ↓ev_tmp, ↓ev_const, ↓ev_func, ↓ev_global, init, Nat.reduceEqDiff, Nat.reduceAdd, Nat.reduceMul, Nat.reduceSub, ↓reduceIte, Int.reduceEq, Int.reduceNe, Nat.reduceLeDiff, one, Value.cells, Int.reduceLE, Int.reduceLT, Int.reduceToNat, add_mk, reduceCtorEq, List.mem_range'_1, true_and, and_true, and_false, false_and, Nat.reduceLT, Nat.reduceLeDiff, tyF]
  refine draw_name fun K hK => ?_
  refine draw_seen 6 [[], [0], [0, 1], [0, 1, 2], [], [], [0, 1, 2, 3, 4, 5], [0, 1, 2, 3, 4, 5, 6]] (RV.look []) mixed (by kernel_rfl) (by kernel_rfl) (look_keeps _ (by simp)) ?_
  simp (config := {maxSteps := 1000000}) only [↓zvN, zvU, ↓zqD, ↓up_apply, ↓hv_apply, ↓upO_some, ↓upO_none, ↓ev_tmp, ↓ev_const, ↓ev_func, ↓ev_global, init, Nat.reduceEqDiff, Nat.reduceAdd, Nat.reduceMul, Nat.reduceSub, ↓reduceIte, Int.reduceEq, Int.reduceNe, Nat.reduceLeDiff, one, Value.cells, Int.reduceLE, Int.reduceLT, Int.reduceToNat, add_mk, reduceCtorEq, List.mem_range'_1, true_and, and_true, and_false, false_and, Nat.reduceLT, Nat.reduceLeDiff, tyF, d0, lx, v16, l16, ve, le]
  intro w17 hm17
  try simp (config := {maxSteps := 1000000}) only [↓zvN, zvU, ↓up_apply, ↓hv_apply, ↓upO_some, ↓upO_none, ↓ev_tmp, ↓ev_const, ↓ev_func, ↓ev_global, init, Nat.reduceEqDiff, Nat.reduceAdd, Nat.reduceMul, Nat.reduceSub, ↓reduceIte, Int.reduceEq, Int.reduceNe, Nat.reduceLeDiff, one, Value.cells, Int.reduceLE, Int.reduceLT, Int.reduceToNat, add_mk, reduceCtorEq, List.mem_range'_1, true_and, and_true, and_false, false_and, Nat.reduceLT, Nat.reduceLeDiff, tyF, p_nil]
  have hB17 := hB16.more hm17
  have hq17 := hq16.more hm17
  refine call_ok Try.call56 (tab_put_box w17 b t _ room p un (some ⟨q, 0, none⟩) hp hB17.tab hB17.room_le) ?_
  rintro _ w18 ⟨rfl, hT18, hm18⟩
  have hlen : (sweepL now L).length = ((sweepL now L).map entB).length := by rw [List.length_map]
  have hmem : p ∉ keysM ((sweepL now L).map entB) := by rw [keys_entB]; exact hin
  have hpo : putOk ((sweepL now L).map entB) room p = decide ((sweepL now L).length < room) := by
    unfold putOk
    rw [decide_eq_false hmem, Bool.false_or, hlen]
  have hM1 : Mod (two b t) w w16 := by
    have h12 : Mod (two b t) w w12 := ((hmm2.trans (Mod.of_more hm8)).trans (Mod.of_more hm9)).trans (Mod.of_more hm12)
    have h14 : Mod (two b t) w w14 := h12.trans (Mod.of_more hm1214)
    have h15 : Mod (two b t) w w15 := h14.next (Mod.of_wr (S := fun k => k = eb) k1 rfl) (fun k hk h => by omega)
    exact h15.next bt16 (fun k hk h => by have : k = q := h; omega)
  have hM : Mod (two b t) w w18 := (hM1.trans (Mod.of_more hm17)).trans hm18
  have own18 : OwnToks w18 x b t (sweepL now L) := hB17.own.mod hm18 (fun d hd => by have := hB17.own.sep d hd; rintro (h | h); exact this.1 h; exact this.2.1 h)
  have box18 := hm18.blk hB17.box (by rintro (h | h); exact hB17.ne.1 h; exact hB17.ne.2 h)
  have hq18 := hm18.blk hq17 (by rintro (h | h) <;> omega)
  have hpa : putA ((sweepL now L).map entB) room p [.int .i64 un, .pointer (some ⟨q, 0, none⟩)] = (putB now L room p (newE now term rate burst q)).map entB := by
    unfold putA putB
    rw [hpo, if_neg hin]
    by_cases hr : (sweepL now L).length < room
    · rw [if_pos (decide_eq_true hr), if_pos hr, hnew]
      exact put_entB (sweepL now L) p ⟨un, q, (tok0 rate burst).take now 0⟩
    · rw [if_neg (by simpa using hr), if_neg hr]
  rw [hpa] at hT18
  have hfin : BoxW w18 x b t room term rate burst (putB now L room p (newE now term rate burst q)) := by
    refine ⟨box18, hT18, ?_, hB17.ne, hB17.room_le, hB17.ok⟩
    unfold putB
    rw [if_neg hin]
    split
    · have hmm : ∀ e ∈ putL (sweepL now L) p (newE now term rate burst q), e = (p, newE now term rate burst q) ∨ e ∈ sweepL now L := fun e he => by
        rcases mem_putL.1 (show (e.1, e.2) ∈ _ from he) with ⟨h1, h2⟩ | ⟨_, h2⟩
        · left; rw [← h1, ← h2]
        · exact .inr h2
      refine ⟨fun e he => ?_, fun e he => ?_, fun e he e' he' hq' => ?_⟩
      · rcases hmm e he with rfl | h
        · rw [hnew]; exact ⟨hq18, TokM.take_ok htok _ _⟩
        · exact own18.tok e h
      · rcases hmm e he with rfl | h
        · rw [hnew]; exact ⟨by show q ≠ b; omega, by show q ≠ t; omega, by show q ≠ x; omega⟩
        · exact own18.sep e h
      · rcases hmm e he with rfl | h <;> rcases hmm e' he' with rfl | h'
        · rfl
        · have := hqe e' h'
          rw [hnew] at hq'
          have hq' : q = e'.2.q := hq'
          omega
        · have := hqe e h
          rw [hnew] at hq'
          have hq' : e.2.q = q := hq'
          omega
        · exact own18.one e h e' h' hq'
    · exact own18
  rw [hpo]
  have hcode : putCode now L room p = if (sweepL now L).length < room then 0 else 6 := by unfold putCode; rw [if_neg hin]
  by_cases hr : (sweepL now L).length < room
  · rw [if_pos hr] at hcode
    rw [decide_eq_true hr]
    simp (config := {maxSteps := 1000000}) only [↓zvN, zvU, ↓up_apply, ↓hv_apply, ↓upO_some, ↓upO_none, ↓ev_tmp, ↓ev_const, ↓ev_func, ↓ev_global, init, Nat.reduceEqDiff, Nat.reduceAdd, Nat.reduceMul, Nat.reduceSub, ↓reduceIte, Int.reduceEq, Int.reduceNe, Nat.reduceLeDiff, one, Value.cells, Int.reduceLE, Int.reduceLT, Int.reduceToNat, add_mk, reduceCtorEq, List.mem_range'_1, true_and, and_true, and_false, false_and, Nat.reduceLT, Nat.reduceLeDiff, tyF, p_nil]
    refine hK _ _ ?_
    simp (config := {maxSteps := 1000000}) only [↓zvN, zvU, ↓up_apply, ↓hv_apply, ↓upO_some, ↓upO_none, ↓ev_tmp, ↓ev_const, ↓ev_func, ↓ev_global, init, Nat.reduceEqDiff, Nat.reduceAdd, Nat.reduceMul, Nat.reduceSub, ↓reduceIte, Int.reduceEq, Int.reduceNe, Nat.reduceLeDiff, one, Value.cells, Int.reduceLE, Int.reduceLT, Int.reduceToNat, add_mk, reduceCtorEq, List.mem_range'_1, true_and, and_true, and_false, false_and, Nat.reduceLT, Nat.reduceLeDiff, tyF]
    exact ⟨q, by omega, by rw [hcode]; rfl, hfin, hM⟩
  · rw [if_neg hr] at hcode
    rw [decide_eq_false hr]
    simp (config := {maxSteps := 1000000}) only [↓zvN, zvU, ↓up_apply, ↓hv_apply, ↓upO_some, ↓upO_none, ↓ev_tmp, ↓ev_const, ↓ev_func, ↓ev_global, init, Nat.reduceEqDiff, Nat.reduceAdd, Nat.reduceMul, Nat.reduceSub, ↓reduceIte, Int.reduceEq, Int.reduceNe, Nat.reduceLeDiff, one, Value.cells, Int.reduceLE, Int.reduceLT, Int.reduceToNat, add_mk, reduceCtorEq, List.mem_range'_1, true_and, and_true, and_false, false_and, Nat.reduceLT, Nat.reduceLeDiff, tyF, p_nil]
    refine hK _ _ ?_
    simp (config := {maxSteps := 1000000}) only [↓zvN, zvU, ↓up_apply, ↓hv_apply, ↓upO_some, ↓upO_none, ↓ev_tmp, ↓ev_const, ↓ev_func, ↓ev_global, init, Nat.reduceEqDiff, Nat.reduceAdd, Nat.reduceMul, Nat.reduceSub, ↓reduceIte, Int.reduceEq, Int.reduceNe, Nat.reduceLeDiff, one, Value.cells, Int.reduceLE, Int.reduceLT, Int.reduceToNat, add_mk, reduceCtorEq, List.mem_range'_1, true_and, and_true, and_false, false_and, Nat.reduceLT, Nat.reduceLeDiff, tyF]
    exact ⟨q, by omega, by rw [hcode]; rfl, hfin, hM⟩
end Go.Proofs.Ytimhcjakpdebjaa
