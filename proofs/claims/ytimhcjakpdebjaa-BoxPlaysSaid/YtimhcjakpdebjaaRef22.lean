/-
  Layer 22: the document's box.
-/
import Derived.Test.YtimhcjakpdebjaaRef17
namespace Go.Proofs.Ytimhcjakpdebjaa
open Go Go.RowKit Go.Proofs.RV
set_option linter.unusedSimpArgs false
set_option linter.unusedVariables false
set_option maxRecDepth 10000
set_option maxHeartbeats 4000000
def reB (burst : Int) (e : PrefM × BoxE) : List Value := e.1.cells ++ (.int .i64 e.2.until_ :: rtok burst e.2.tok)
def POk (L : BoxL) : Prop := ∀ e ∈ L, e.1.addr.length = 7
theorem reB_len {burst : Int} {e : PrefM × BoxE} (h : e.1.addr.length = 7) : (reB burst e).length = 13 := by simp [reB, PrefM.cells, h, rtok]
theorem POk.lens {burst : Int} {L : BoxL} (h : POk L) : ∀ e ∈ L, (reB burst e).length = 13 := fun e he => reB_len (h e he)
theorem reB_one (burst : Int) (e : PrefM × BoxE) : ∀ u ∈ reB burst e, u.oneCell' = true := by
  intro u hu
  rcases List.mem_append.1 hu with h | h
  · exact PrefM.one _ u h
  · simp [rtok] at h; rcases h with rfl | rfl | rfl | rfl | rfl <;> rfl
def rbox (A : Option Addr) (n c : Nat) (room term rate burst : Int) : List Value := [.slice A n c, .int .i64 room, .int .i64 term, .int .i64 rate, .int .i64 burst]
theorem zerRB : zer Try.prog 77 = some (.agg (rbox none 0 0 0 0 0 0).toArray) := by rw [zer77]; rfl
def entZ : PrefM × BoxE := (prefZ, ⟨0, 0, ⟨0, 0, 0, 0⟩⟩)
theorem reBE : ElemT Try.prog 125 (.agg (reB 0 entZ).toArray) 13 48 := by unfold ElemT; kernel_rfl
theorem rbox_one (A : Option Addr) (n c : Nat) (room term rate burst : Int) : ∀ u ∈ rbox A n c room term rate burst, u.oneCell' = true := by intro u hu; simp [rbox] at hu; rcases hu with rfl | rfl | rfl | rfl | rfl <;> rfl
theorem ref_clamp (w : World) (n : Int) : Ret Try.prog 60 #[.int .i64 n] w fun v w' => v = .int .i64 (max n 0) ∧ w' = w := by
  refine ret_of Try.func60 rfl (by kernel_rfl) (Nat.le_of_ble_eq_true (by kernel_rfl)) ?_
  simp (config := {maxSteps := 1000000}) only [↓zvN, zvU, ↓up_apply, ↓hv_apply, ↓upO_some, ↓upO_none, ↓ev_tmp, ↓ev_const, ↓ev_func, ↓ev_global, init, Nat.reduceEqDiff, Nat.reduceAdd, Nat.reduceMul, Nat.reduceSub, ↓reduceIte, Int.reduceEq, Int.reduceNe, Nat.reduceLeDiff, one, Value.cells, Int.reduceLE, Int.reduceLT, Int.reduceToNat, add_mk, reduceCtorEq, List.mem_range'_1, true_and, and_true, and_false, false_and, Nat.reduceLT, Nat.reduceLeDiff, tyF]
  refine ⟨fun h => ?_, fun h => ?_⟩
  · show Value.int IntKind.i64 0 = _
    congr 1; omega
  · show Value.int IntKind.i64 n = _
    congr 1; omega
def SwpJ (now burst : Int) (L : BoxL) (w : World) (v5 v10 : Value) (w' : World) : Prop :=
  ∃ (k : Nat) (A : Option Addr) (c : Nat), v10 = .int .i64 k ∧ k ≤ L.length ∧ v5 = .slice A (sweepL now (L.take k)).length c ∧ Own w' w.heap.size 125 13 A (sweepL now (L.take k)).length c ((sweepL now (L.take k)).flatMap (reB burst)) ∧ More w w'
theorem sweep_len (now : Int) (L : BoxL) : (sweepL now L).length ≤ L.length := List.length_filter_le _ _
theorem ref_sweep (w : World) (A : Option Addr) (L : BoxL) (c : Nat) (room term rate burst now : Int) (hA : Cs w A (L.flatMap (reB burst))) (hO : POk L) (hl : L.length ≤ 1000000) :
    Ret Try.prog 38 #[.agg (rbox A L.length c room term rate burst).toArray, .int .i64 now] w fun v w' => ∃ A' c', v = .agg (rbox A' (sweepL now L).length c' room term rate burst).toArray ∧ (sweepL now L).length ≤ c' ∧ Cs w' A' ((sweepL now L).flatMap (reB burst)) ∧ (∀ a, A' = some a → w.heap.size ≤ a.block) ∧ More w w' := by
  refine ret_of Try.func38 rfl (by kernel_rfl) (Nat.le_of_ble_eq_true (by kernel_rfl)) ?_
  have hm1 := more_alloc w (.cells (rbox A L.length c room term rate burst).toArray 77)
  have hb1 := Blk.new w 77 (rbox A L.length c room term rate burst).toArray
  have s1 := size_alloc w (.cells (rbox A L.length c room term rate burst).toArray 77)
  have hm2 := more_alloc (w.alloc (.cells (rbox A L.length c room term rate burst).toArray 77)) (.cells (rbox none 0 0 0 0 0 0).toArray 77)
  have hb2 := Blk.new (w.alloc (.cells (rbox A L.length c room term rate burst).toArray 77)) 77 (rbox none 0 0 0 0 0 0).toArray
  replace hb1 := hb1.more hm2
  have hm := hm1.trans hm2
  rw [s1] at hb2
  rw [List.toList_toArray] at hb1 hb2
  simp (config := {maxSteps := 1000000}) only [↓zvN, zvU, ↓up_apply, ↓hv_apply, ↓upO_some, ↓upO_none, ↓ev_tmp, ↓ev_const, ↓ev_func, ↓ev_global, init, Nat.reduceEqDiff, Nat.reduceAdd, Nat.reduceMul, Nat.reduceSub, ↓reduceIte, Int.reduceEq, Int.reduceNe, Nat.reduceLeDiff, one, Value.cells, Int.reduceLE, Int.reduceLT, Int.reduceToNat, add_mk, reduceCtorEq, List.mem_range'_1, true_and, and_true, and_false, false_and, Nat.reduceLT, Nat.reduceLeDiff, tyF, s1, zerRB]
  have c0 : ((w.alloc (.cells (rbox A L.length c room term rate burst).toArray 77)).alloc (.cells (rbox none 0 0 0 0 0 0).toArray 77)).cell? ⟨w.heap.size, 0, none⟩ = some (.slice A L.length c) := by rw [hb1.cell]; rfl
  simp (config := {maxSteps := 1000000}) only [↓zvN, zvU, ↓up_apply, ↓hv_apply, ↓upO_some, ↓upO_none, ↓ev_tmp, ↓ev_const, ↓ev_func, ↓ev_global, init, Nat.reduceEqDiff, Nat.reduceAdd, Nat.reduceMul, Nat.reduceSub, ↓reduceIte, Int.reduceEq, Int.reduceNe, Nat.reduceLeDiff, one, Value.cells, Int.reduceLE, Int.reduceLT, Int.reduceToNat, add_mk, reduceCtorEq, List.mem_range'_1, true_and, and_true, and_false, false_and, Nat.reduceLT, Nat.reduceLeDiff, tyF, s1, c0]
  clear c0
  obtain ⟨w1, hw1⟩ : ∃ w1, (w.alloc (.cells (rbox A L.length c room term rate burst).toArray 77)).alloc (.cells (rbox none 0 0 0 0 0 0).toArray 77) = w1 := ⟨_, rfl⟩
  rw [hw1] at hb1 hb2 hm ⊢
  refine loop_p (5 :: 6 :: List.range' 10 22) (fun e w' => SwpJ now burst L w1 (e 5) (e 10) w') (fun e _ => L.length - (numOf (e 10)).toNat) ?_ ?_
  · exact ⟨0, none, 0, by simp only [hv_apply, up_apply, upO_some, upO_none, init, List.mem_cons, List.mem_range'_1, true_and, and_true, and_false, false_and, Nat.reduceLT, Nat.reduceLeDiff, Nat.reduceAdd, true_or, or_true, if_true, if_false, ↓reduceIte, Nat.reduceEqDiff, false_or, or_false, List.not_mem_nil, List.getElem?_cons_zero, List.getElem?_cons_succ, Option.getD_some] <;> rfl, by omega, by simp only [hv_apply, up_apply, upO_some, upO_none, init, List.mem_cons, List.mem_range'_1, true_and, and_true, and_false, false_and, Nat.reduceLT, Nat.reduceLeDiff, Nat.reduceAdd, true_or, or_true, if_true, if_false, ↓reduceIte, Nat.reduceEqDiff, false_or, or_false, List.not_mem_nil, List.getElem?_cons_zero, List.getElem?_cons_succ, Option.getD_some] <;> rfl, Own.nil _ _ _ _, More.refl _⟩
  rintro v w2 ⟨k, A2, c2, h10, hk, h5, ho2, hm2'⟩
  simp only [hv_apply, up_apply, upO_some, upO_none, init, List.mem_cons, List.mem_range'_1, true_and, and_true, and_false, false_and, Nat.reduceLT, Nat.reduceLeDiff, Nat.reduceAdd, true_or, or_true, if_true, if_false, ↓reduceIte, Nat.reduceEqDiff, false_or, or_false, List.not_mem_nil, List.getElem?_cons_zero, List.getElem?_cons_succ, Option.getD_some] at h10 h5
  have ek : IntKind.i64.wrap ((k : Int) + 1) = ((k + 1 : Nat) : Int) := w64 (by omega) (by omega)
  simp (config := {maxSteps := 1000000}) only [↓zvN, zvU, ↓up_apply, ↓hv_apply, ↓upO_some, ↓upO_none, ↓ev_tmp, ↓ev_const, ↓ev_func, ↓ev_global, init, Nat.reduceEqDiff, Nat.reduceAdd, Nat.reduceMul, Nat.reduceSub, ↓reduceIte, Int.reduceEq, Int.reduceNe, Nat.reduceLeDiff, one, Value.cells, Int.reduceLE, Int.reduceLT, Int.reduceToNat, add_mk, reduceCtorEq, List.mem_range'_1, true_and, and_true, and_false, false_and, Nat.reduceLT, Nat.reduceLeDiff, tyF, h10]
  have hb1' := hb1.more hm2'
  have hb2' := hb2.more hm2'
  refine ⟨fun h9 => ?_, fun h9 => ?_⟩
  rotate_left
  · obtain rfl : k = L.length := by omega
    rw [List.take_length] at ho2 h5
    simp (config := {maxSteps := 1000000}) only [↓zvN, zvU, ↓up_apply, ↓hv_apply, ↓upO_some, ↓upO_none, ↓ev_tmp, ↓ev_const, ↓ev_func, ↓ev_global, init, Nat.reduceEqDiff, Nat.reduceAdd, Nat.reduceMul, Nat.reduceSub, ↓reduceIte, Int.reduceEq, Int.reduceNe, Nat.reduceLeDiff, one, Value.cells, Int.reduceLE, Int.reduceLT, Int.reduceToNat, add_mk, reduceCtorEq, List.mem_range'_1, true_and, and_true, and_false, false_and, Nat.reduceLT, Nat.reduceLeDiff, tyF, h5, s1]
    refine st_cell hb1' (by simp [rbox]) rfl fun w3 j1 j2 => ?_
    rw [s2_undef]
    replace j2 : Blk w3 w.heap.size 77 (rbox A2 (sweepL now L).length c2 room term rate burst) := j2
    have v3 := j2.all_eq 5 rfl
    have hb3 := (But.of_wr j1).blk hb2' (by omega)
    simp (config := {maxSteps := 1000000}) only [↓zvN, zvU, ↓up_apply, ↓hv_apply, ↓upO_some, ↓upO_none, ↓ev_tmp, ↓ev_const, ↓ev_func, ↓ev_global, init, Nat.reduceEqDiff, Nat.reduceAdd, Nat.reduceMul, Nat.reduceSub, ↓reduceIte, Int.reduceEq, Int.reduceNe, Nat.reduceLeDiff, one, Value.cells, Int.reduceLE, Int.reduceLT, Int.reduceToNat, add_mk, reduceCtorEq, List.mem_range'_1, true_and, and_true, and_false, false_and, Nat.reduceLT, Nat.reduceLeDiff, tyF, s1, v3]
    refine st_all hb3 rfl rfl (by simpa using rbox_one A2 (sweepL now L).length c2 room term rate burst) fun w4 q1 q2 => ?_
    rw [s2_undef]
    rw [List.toList_toArray] at q2
    have v4 := q2.all_eq 5 rfl
    simp (config := {maxSteps := 1000000}) only [↓zvN, zvU, ↓up_apply, ↓hv_apply, ↓upO_some, ↓upO_none, ↓ev_tmp, ↓ev_const, ↓ev_func, ↓ev_global, init, Nat.reduceEqDiff, Nat.reduceAdd, Nat.reduceMul, Nat.reduceSub, ↓reduceIte, Int.reduceEq, Int.reduceNe, Nat.reduceLeDiff, one, Value.cells, Int.reduceLE, Int.reduceLT, Int.reduceToNat, add_mk, reduceCtorEq, List.mem_range'_1, true_and, and_true, and_false, false_and, Nat.reduceLT, Nat.reduceLeDiff, tyF, s1, v4]
    have hz := hm.size
    have hge : ∀ y, A2 = some y → w1.heap.size ≤ y.block := fun y hy => (ho2.atB_ge ⟨y, hy, rfl⟩).1
    have hs1 : w1.heap.size = w.heap.size + 2 := by rw [← hw1, size_alloc, s1]
    have ho4 := (ho2.wr j1 (fun g hg => by have := hge _ hg; simp only at this; omega)).wr q1 (fun g hg => by have := hge _ hg; simp only at this; omega)
    exact ⟨A2, c2, rfl, ho4.le, ho4.cs, fun y hy => by have := hge y hy; omega, more_but (more_but (hm.trans hm2') (But.of_wr j1) (Nat.le_refl _)) (But.of_wr q1) (by omega)⟩
  obtain ⟨e, he⟩ := row_nat L k (by omega)
  have hep := hO e (List.mem_of_getElem? he)
  obtain ⟨a, rfl⟩ := hA.some_of (by rw [row_len (s := 13) L hO.lens]; omega)
  have hA2 := hA.more (hm.trans hm2')
  have h8 : e.1.cells.length = 8 := by simp [PrefM.cells, hep]
  have cu : w2.cell? ((a.add (k * 13)).add 8) = some (.int .i64 e.2.until_) := by
    rw [hA2.elemA (s := 13) hO.lens he (by omega), reB, List.getElem?_append_right (by omega), h8]
    rfl
  have cb : w2.cell? ⟨w.heap.size, 0, none⟩ = some (.slice (some a) L.length c) := by rw [hb1'.cell]; rfl
  have lb := hb1'.lt
  have la := Cs.lt' hA2 (by rw [row_len (s := 13) L hO.lens]; omega)
  have g0 : (0 : Int) ≤ (k : Int) := by omega
  simp (config := {maxSteps := 1000000}) only [↓zvN, zvU, ↓up_apply, ↓hv_apply, ↓upO_some, ↓upO_none, ↓ev_tmp, ↓ev_const, ↓ev_func, ↓ev_global, init, Nat.reduceEqDiff, Nat.reduceAdd, Nat.reduceMul, Nat.reduceSub, ↓reduceIte, Int.reduceEq, Int.reduceNe, Nat.reduceLeDiff, one, Value.cells, Int.reduceLE, Int.reduceLT, Int.reduceToNat, add_mk, reduceCtorEq, List.mem_range'_1, true_and, and_true, and_false, false_and, Nat.reduceLT, Nat.reduceLeDiff, tyF, h10, h9, s1]
  obtain ⟨mx, hmx⟩ : ∃ mx, max now 0 = mx := ⟨_, rfl⟩
  have hcl : ∀ w3, Ret Try.prog 60 #[.int .i64 now] w3 fun v w' => v = .int .i64 mx ∧ w' = w3 := fun w3 => by rw [← hmx]; exact ref_clamp w3 now
  refine draw_seen 8 [[], [0], [], [2], [], [2, 3, 4], [2, 3, 4, 5], [2, 3, 4, 5, 6], [0, 1, 2, 3, 4, 5, 6, 7]] (RV.look [(1, RV.IsV (.int .i64 mx))]) mixed (by kernel_rfl) (by kernel_rfl) (look_keeps _ (by simp [keepsV])) ?_
  simp (config := {maxSteps := 1000000}) only [↓zvN, zvU, ↓zqD, ↓up_apply, ↓hv_apply, ↓upO_some, ↓upO_none, ↓ev_tmp, ↓ev_const, ↓ev_func, ↓ev_global, init, Nat.reduceEqDiff, Nat.reduceAdd, Nat.reduceMul, Nat.reduceSub, ↓reduceIte, Int.reduceEq, Int.reduceNe, Nat.reduceLeDiff, one, Value.cells, Int.reduceLE, Int.reduceLT, Int.reduceToNat, add_mk, reduceCtorEq, List.mem_range'_1, true_and, and_true, and_false, false_and, Nat.reduceLT, Nat.reduceLeDiff, tyF, h10, h9, s1, cb, lb, la, cu, g0, Int.toNat_natCast]
  refine ⟨fun w3 hm3 => call_ok Try.call60 (hcl w3) ?_, ?_⟩
  · rintro _ w4 ⟨rfl, rfl⟩
    simp (config := {maxSteps := 1000000}) only [↓zvN, zvU, ↓zqD, ↓up_apply, ↓hv_apply, ↓upO_some, ↓upO_none, ↓ev_tmp, ↓ev_const, ↓ev_func, ↓ev_global, init, Nat.reduceEqDiff, Nat.reduceAdd, Nat.reduceMul, Nat.reduceSub, ↓reduceIte, Int.reduceEq, Int.reduceNe, Nat.reduceLeDiff, one, Value.cells, Int.reduceLE, Int.reduceLT, Int.reduceToNat, add_mk, reduceCtorEq, List.mem_range'_1, true_and, and_true, and_false, false_and, Nat.reduceLT, Nat.reduceLeDiff, tyF]
    exact ⟨More.refl _, rfl⟩
  rintro _ ⟨_, _, rfl⟩
  simp (config := {maxSteps := 1000000}) only [↓zvN, zvU, ↓zqD, ↓up_apply, ↓hv_apply, ↓upO_some, ↓upO_none, ↓ev_tmp, ↓ev_const, ↓ev_func, ↓ev_global, init, Nat.reduceEqDiff, Nat.reduceAdd, Nat.reduceMul, Nat.reduceSub, ↓reduceIte, Int.reduceEq, Int.reduceNe, Nat.reduceLeDiff, one, Value.cells, Int.reduceLE, Int.reduceLT, Int.reduceToNat, add_mk, reduceCtorEq, List.mem_range'_1, true_and, and_true, and_false, false_and, Nat.reduceLT, Nat.reduceLeDiff, tyF, h10, h9, s1, cb, lb, la, cu, g0, Int.toNat_natCast]
  intro w3 hm3 _
  have hm23 := hm2'.trans hm3
  have ho3 := ho2.more hm3
  have hsl := sweep_len now (L.take k)
  rw [List.length_take] at hsl
  refine ⟨fun hal => ?_, fun hal => ?_⟩
  · have hst : sweepL now (L.take (k + 1)) = sweepL now (L.take k) ++ [e] := by
      unfold sweepL
      rw [List.take_add_one, he, List.filter_append]
      congr 1
      simp only [Option.toList_some]
      rw [List.filter_cons_of_pos (by unfold aliveB; rw [hmx]; exact decide_eq_true hal)]
      rfl
    have hb3 := hb1'.more hm3
    have cb3 : w3.cell? ⟨w.heap.size, 0, none⟩ = some (.slice (some a) L.length c) := by rw [hb3.cell]; rfl
    have rd := (hA2.more hm3).rowEq (s := 13) hO.lens he
    simp (config := {maxSteps := 1000000}) only [↓zvN, zvU, ↓up_apply, ↓hv_apply, ↓upO_some, ↓upO_none, ↓ev_tmp, ↓ev_const, ↓ev_func, ↓ev_global, init, Nat.reduceEqDiff, Nat.reduceAdd, Nat.reduceMul, Nat.reduceSub, ↓reduceIte, Int.reduceEq, Int.reduceNe, Nat.reduceLeDiff, one, Value.cells, Int.reduceLE, Int.reduceLT, Int.reduceToNat, add_mk, reduceCtorEq, List.mem_range'_1, true_and, and_true, and_false, false_and, Nat.reduceLT, Nat.reduceLeDiff, tyF, h10, h5, h9, s1, cb3, rd, g0, Int.toNat_natCast, p_nil]
    refine bslice1 Try.underlying75 reBE (by omega) (by omega) (reB_len hep) ?_
    have hm6 := more_alloc w3 (.cells (reB burst e).toArray 125)
    have hb6 := Blk.new w3 125 (reB burst e).toArray
    obtain ⟨w6, hw6⟩ : ∃ w6, w3.alloc (.cells (reB burst e).toArray 125) = w6 := ⟨_, rfl⟩
    rw [hw6] at hm6 hb6 ⊢
    rw [List.toList_toArray] at hb6
    have hz := (hm23.trans hm6).size
    simp (config := {maxSteps := 1000000}) only [↓zvN, zvU, ↓up_apply, ↓hv_apply, ↓upO_some, ↓upO_none, ↓ev_tmp, ↓ev_const, ↓ev_func, ↓ev_global, init, Nat.reduceEqDiff, Nat.reduceAdd, Nat.reduceMul, Nat.reduceSub, ↓reduceIte, Int.reduceEq, Int.reduceNe, Nat.reduceLeDiff, one, Value.cells, Int.reduceLE, Int.reduceLT, Int.reduceToNat, add_mk, reduceCtorEq, List.mem_range'_1, true_and, and_true, and_false, false_and, Nat.reduceLT, Nat.reduceLeDiff, tyF, h5]
    refine app_mod (m := 1) (news := reB burst e) Try.underlying75 reBE rfl (by omega) (ho3.more hm6) hb6.cs (by rw [reB_len hep]) (reB_one _ _) (by simp only [maxLen]; omega) (by omega) (by omega) ?_
    intro A9 c9 w9 ho9 hmd9 _
    have hm9 : More w1 w9 := Mod.more (hm23.trans hm6) hmd9 (fun j hj h => by have := (ho2.atB_ge h).1; omega)
    simp (config := {maxSteps := 1000000}) only [↓zvN, zvU, ↓up_apply, ↓hv_apply, ↓upO_some, ↓upO_none, ↓ev_tmp, ↓ev_const, ↓ev_func, ↓ev_global, init, Nat.reduceEqDiff, Nat.reduceAdd, Nat.reduceMul, Nat.reduceSub, ↓reduceIte, Int.reduceEq, Int.reduceNe, Nat.reduceLeDiff, one, Value.cells, Int.reduceLE, Int.reduceLT, Int.reduceToNat, add_mk, reduceCtorEq, List.mem_range'_1, true_and, and_true, and_false, false_and, Nat.reduceLT, Nat.reduceLeDiff, tyF, h10, ek]
    rw [show (sweepL now (L.take k)).length + 1 = (sweepL now (L.take (k + 1))).length by rw [hst]; simp] at ho9 ⊢
    refine ⟨⟨?_, k + 1, A9, c9, rfl, by omega, rfl, by rw [hst] at ho9 ⊢; simpa [List.flatMap_append] using ho9, hm9⟩, by simp only [numOf]; omega⟩
    repeat (first | exact Same.hv _ _ _ | refine Same.up (by simp) ?_)
  · have hst : sweepL now (L.take (k + 1)) = sweepL now (L.take k) := by
      unfold sweepL
      rw [List.take_add_one, he, List.filter_append]
      simp only [Option.toList_some]
      rw [List.filter_cons_of_neg (by unfold aliveB; rw [hmx]; simp; omega)]
      simp
    try simp (config := {maxSteps := 1000000}) only [↓zvN, zvU, ↓up_apply, ↓hv_apply, ↓upO_some, ↓upO_none, ↓ev_tmp, ↓ev_const, ↓ev_func, ↓ev_global, init, Nat.reduceEqDiff, Nat.reduceAdd, Nat.reduceMul, Nat.reduceSub, ↓reduceIte, Int.reduceEq, Int.reduceNe, Nat.reduceLeDiff, one, Value.cells, Int.reduceLE, Int.reduceLT, Int.reduceToNat, add_mk, reduceCtorEq, List.mem_range'_1, true_and, and_true, and_false, false_and, Nat.reduceLT, Nat.reduceLeDiff, tyF, h10, ek, p_nil]
    refine ⟨⟨?_, k + 1, A2, c2, rfl, by omega, by rw [hst]; exact h5, by rw [hst]; exact ho3, hm23⟩, by simp only [numOf]; omega⟩
    repeat (first | exact Same.hv _ _ _ | refine Same.up (by simp) ?_)
/-- where somebody is; -1: nowhere -/
def idxB (p : PrefM) : BoxL → Nat → Int
  | [], _ => -1
  | e :: l, k => if e.1 = p then (k : Int) else idxB p l (k + 1)
theorem idxB_spec {p : PrefM} : ∀ (l : BoxL) (k : Nat), (idxB p l k = -1 ∧ p ∉ keysM l) ∨ ∃ i, idxB p l k = ((k + i : Nat) : Int) ∧ i < l.length ∧ ∃ e, l[i]? = some e ∧ e.1 = p
  | [], k => .inl ⟨rfl, by simp [keysM]⟩
  | e :: l, k => by
    unfold idxB
    by_cases h : e.1 = p
    · rw [if_pos h]
      exact .inr ⟨0, by omega, by simp, e, rfl, h⟩
    · rw [if_neg h]
      rcases idxB_spec l (k + 1) with ⟨h1, h2⟩ | ⟨i, h1, h2, e', h3, h4⟩
      · refine .inl ⟨h1, fun hm => ?_⟩
        rcases List.mem_cons.1 (show p ∈ e.1 :: keysM l from hm) with h3 | h3
        · exact h h3.symm
        · exact h2 h3
      · exact .inr ⟨i + 1, by rw [h1]; congr 1; omega, by simp; omega, e', by simpa using h3, h4⟩
def FindBJ (p : PrefM) (L : BoxL) (w : World) (v9 : Value) (w' : World) : Prop := ∃ k : Nat, v9 = .int .i64 k ∧ k ≤ L.length ∧ idxB p (L.drop k) k = idxB p L 0 ∧ More w w'
theorem ref_findB (w : World) (A : Option Addr) (L : BoxL) (c : Nat) (room term rate burst : Int) (p : PrefM) (hp : p.addr.length = 7) (hA : Cs w A (L.flatMap (reB burst))) (hO : POk L) (hl : L.length ≤ 1000000) :
    Ret Try.prog 39 #[.agg (rbox A L.length c room term rate burst).toArray, .agg p.cells.toArray] w fun v w' => v = .int .i64 (idxB p L 0) ∧ More w w' := by
  refine ret_of Try.func39 rfl (by kernel_rfl) (Nat.le_of_ble_eq_true (by kernel_rfl)) ?_
  have hm1 := more_alloc w (.cells (rbox A L.length c room term rate burst).toArray 77)
  have hb1 := Blk.new w 77 (rbox A L.length c room term rate burst).toArray
  have s1 := size_alloc w (.cells (rbox A L.length c room term rate burst).toArray 77)
  have hm2 := more_alloc (w.alloc (.cells (rbox A L.length c room term rate burst).toArray 77)) (.cells p.cells.toArray 24)
  have hb2 := Blk.new (w.alloc (.cells (rbox A L.length c room term rate burst).toArray 77)) 24 p.cells.toArray
  replace hb1 := hb1.more hm2
  have hm := hm1.trans hm2
  rw [s1] at hb2
  rw [List.toList_toArray] at hb1 hb2
  have c0 : ((w.alloc (.cells (rbox A L.length c room term rate burst).toArray 77)).alloc (.cells p.cells.toArray 24)).cell? ⟨w.heap.size, 0, none⟩ = some (.slice A L.length c) := by rw [hb1.cell]; rfl
  simp (config := {maxSteps := 1000000}) only [↓zvN, zvU, ↓up_apply, ↓hv_apply, ↓upO_some, ↓upO_none, ↓ev_tmp, ↓ev_const, ↓ev_func, ↓ev_global, init, Nat.reduceEqDiff, Nat.reduceAdd, Nat.reduceMul, Nat.reduceSub, ↓reduceIte, Int.reduceEq, Int.reduceNe, Nat.reduceLeDiff, one, Value.cells, Int.reduceLE, Int.reduceLT, Int.reduceToNat, add_mk, reduceCtorEq, List.mem_range'_1, true_and, and_true, and_false, false_and, Nat.reduceLT, Nat.reduceLeDiff, tyF, s1]
  simp (config := {maxSteps := 1000000}) only [↓zvN, zvU, ↓up_apply, ↓hv_apply, ↓upO_some, ↓upO_none, ↓ev_tmp, ↓ev_const, ↓ev_func, ↓ev_global, init, Nat.reduceEqDiff, Nat.reduceAdd, Nat.reduceMul, Nat.reduceSub, ↓reduceIte, Int.reduceEq, Int.reduceNe, Nat.reduceLeDiff, one, Value.cells, Int.reduceLE, Int.reduceLT, Int.reduceToNat, add_mk, reduceCtorEq, List.mem_range'_1, true_and, and_true, and_false, false_and, Nat.reduceLT, Nat.reduceLeDiff, tyF, s1, c0]
  clear c0
  obtain ⟨w1, hw1⟩ : ∃ w1, (w.alloc (.cells (rbox A L.length c room term rate burst).toArray 77)).alloc (.cells p.cells.toArray 24) = w1 := ⟨_, rfl⟩
  rw [hw1] at hb1 hb2 hm ⊢
  have hpl : p.cells.length = 8 := by simp [PrefM.cells, hp]
  refine loop_p (5 :: List.range' 9 13) (fun e w' => FindBJ p L w1 (e 9) w') (fun e _ => L.length - (numOf (e 9)).toNat) ?_ ?_
  · exact ⟨0, by simp only [hv_apply, up_apply, upO_some, upO_none, init, List.mem_cons, List.mem_range'_1, true_and, and_true, and_false, false_and, Nat.reduceLT, Nat.reduceLeDiff, Nat.reduceAdd, true_or, or_true, if_true, if_false, ↓reduceIte, Nat.reduceEqDiff, false_or, or_false, List.not_mem_nil, List.getElem?_cons_zero, List.getElem?_cons_succ, Option.getD_some] <;> rfl, by omega, rfl, More.refl _⟩
  rintro v w2 ⟨k, h9', hk, hc, hm2'⟩
  simp only [hv_apply, up_apply, upO_some, upO_none, init, List.mem_cons, List.mem_range'_1, true_and, and_true, and_false, false_and, Nat.reduceLT, Nat.reduceLeDiff, Nat.reduceAdd, true_or, or_true, if_true, if_false, ↓reduceIte, Nat.reduceEqDiff, false_or, or_false, List.not_mem_nil, List.getElem?_cons_zero, List.getElem?_cons_succ, Option.getD_some] at h9'
  have ek : IntKind.i64.wrap ((k : Int) + 1) = ((k + 1 : Nat) : Int) := w64 (by omega) (by omega)
  simp (config := {maxSteps := 1000000}) only [↓zvN, zvU, ↓up_apply, ↓hv_apply, ↓upO_some, ↓upO_none, ↓ev_tmp, ↓ev_const, ↓ev_func, ↓ev_global, init, Nat.reduceEqDiff, Nat.reduceAdd, Nat.reduceMul, Nat.reduceSub, ↓reduceIte, Int.reduceEq, Int.reduceNe, Nat.reduceLeDiff, one, Value.cells, Int.reduceLE, Int.reduceLT, Int.reduceToNat, add_mk, reduceCtorEq, List.mem_range'_1, true_and, and_true, and_false, false_and, Nat.reduceLT, Nat.reduceLeDiff, tyF, h9']
  refine ⟨fun h9 => ?_, fun h9 => ?_⟩
  rotate_left
  · obtain rfl : k = L.length := by omega
    rw [← hc, List.drop_length]
    exact ⟨rfl, hm.trans hm2'⟩
  obtain ⟨e, he⟩ := row_nat L k (by omega)
  have hep := hO e (List.mem_of_getElem? he)
  obtain ⟨a, rfl⟩ := hA.some_of (by rw [row_len (s := 13) L hO.lens]; omega)
  have hA2 := hA.more (hm.trans hm2')
  have h8 : e.1.cells.length = 8 := by simp [PrefM.cells, hep]
  have rd : ∀ K : Value → Prop, ldRow 8 (a.add (k * 13)) w2 K = K (.agg e.1.cells.toArray) := fun K => by
    refine ldRow_eq h8 (fun j hj => ?_) K
    rw [hA2.elemA (s := 13) hO.lens he (by omega), reB, List.getElem?_append_left (by omega)]
  have hdk : L.drop k = e :: L.drop (k + 1) := by
    rw [List.drop_eq_getElem_cons (by omega)]
    congr 1
    rw [List.getElem?_eq_getElem (by omega)] at he
    exact Option.some.inj he
  rw [hdk, idxB] at hc
  have g0 : (0 : Int) ≤ (k : Int) := by omega
  have peq := pref_eq hep hp w2
  have hb1' := hb1.more hm2'
  have cb : w2.cell? ⟨w.heap.size, 0, none⟩ = some (.slice (some a) L.length c) := by rw [hb1'.cell]; rfl
  have v1 := (hb2.more hm2').all_eq 8 hpl
  have l1 := (hb2.more hm2').lt
  have lb := hb1'.lt
  have la := Cs.lt' hA2 (by rw [row_len (s := 13) L hO.lens]; omega)
  simp (config := {maxSteps := 1000000}) only [↓zvN, zvU, ↓up_apply, ↓hv_apply, ↓upO_some, ↓upO_none, ↓ev_tmp, ↓ev_const, ↓ev_func, ↓ev_global, init, Nat.reduceEqDiff, Nat.reduceAdd, Nat.reduceMul, Nat.reduceSub, ↓reduceIte, Int.reduceEq, Int.reduceNe, Nat.reduceLeDiff, one, Value.cells, Int.reduceLE, Int.reduceLT, Int.reduceToNat, add_mk, reduceCtorEq, List.mem_range'_1, true_and, and_true, and_false, false_and, Nat.reduceLT, Nat.reduceLeDiff, tyF, h9', g0, h9]
  refine draw_calm mixed (by kernel_rfl) ?_
  by_cases heq : e.1 = p
  · rw [if_pos heq] at hc
    have peq2 : ∀ ox oy K, _ := fun ox oy K => (peq ox oy K).trans (show _ = K (.bool true) by simp only [heq, decide_true])
    simp (config := {maxSteps := 1000000}) only [↓zvN, zvU, ↓zqD, ↓up_apply, ↓hv_apply, ↓upO_some, ↓upO_none, ↓ev_tmp, ↓ev_const, ↓ev_func, ↓ev_global, init, Nat.reduceEqDiff, Nat.reduceAdd, Nat.reduceMul, Nat.reduceSub, ↓reduceIte, Int.reduceEq, Int.reduceNe, Nat.reduceLeDiff, one, Value.cells, Int.reduceLE, Int.reduceLT, Int.reduceToNat, add_mk, reduceCtorEq, List.mem_range'_1, true_and, and_true, and_false, false_and, Nat.reduceLT, Nat.reduceLeDiff, tyF, h9', g0, h9, s1, addr_zero, rd, cb, v1, l1, lb, la, peq2, Int.toNat_natCast]
    intro w3 hm3
    rw [hc]
    exact ⟨rfl, (hm.trans hm2').trans hm3⟩
  · rw [if_neg heq] at hc
    have peq2 : ∀ ox oy K, _ := fun ox oy K => (peq ox oy K).trans (show _ = K (.bool false) by simp only [heq, decide_false])
    simp (config := {maxSteps := 1000000}) only [↓zvN, zvU, ↓zqD, ↓up_apply, ↓hv_apply, ↓upO_some, ↓upO_none, ↓ev_tmp, ↓ev_const, ↓ev_func, ↓ev_global, init, Nat.reduceEqDiff, Nat.reduceAdd, Nat.reduceMul, Nat.reduceSub, ↓reduceIte, Int.reduceEq, Int.reduceNe, Nat.reduceLeDiff, one, Value.cells, Int.reduceLE, Int.reduceLT, Int.reduceToNat, add_mk, reduceCtorEq, List.mem_range'_1, true_and, and_true, and_false, false_and, Nat.reduceLT, Nat.reduceLeDiff, tyF, h9', g0, h9, s1, addr_zero, rd, cb, v1, l1, lb, la, peq2, Int.toNat_natCast]
    intro w3 hm3
    try simp (config := {maxSteps := 1000000}) only [↓zvN, zvU, ↓up_apply, ↓hv_apply, ↓upO_some, ↓upO_none, ↓ev_tmp, ↓ev_const, ↓ev_func, ↓ev_global, init, Nat.reduceEqDiff, Nat.reduceAdd, Nat.reduceMul, Nat.reduceSub, ↓reduceIte, Int.reduceEq, Int.reduceNe, Nat.reduceLeDiff, one, Value.cells, Int.reduceLE, Int.reduceLT, Int.reduceToNat, add_mk, reduceCtorEq, List.mem_range'_1, true_and, and_true, and_false, false_and, Nat.reduceLT, Nat.reduceLeDiff, tyF]
    rw [ek]
    refine ⟨⟨?_, k + 1, rfl, by omega, hc, hm2'.trans hm3⟩, by simp only [numOf]; omega⟩
    repeat (first | exact Same.hv _ _ _ | refine Same.up (by simp) ?_)
end Go.Proofs.Ytimhcjakpdebjaa
