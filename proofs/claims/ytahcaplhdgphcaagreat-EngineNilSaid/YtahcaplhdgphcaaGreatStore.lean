/-
  What the engine is made of, new: chains, slab, store.
-/
import Derived.Test.YtahcaplhdgphcaaGreatGens
namespace Go.Proofs.YtahcaplhdgphcaaGreat
open Go Go.RowKit Go.Proofs.RV
set_option linter.unusedSimpArgs false
set_option linter.unusedVariables false
set_option maxRecDepth 10000
set_option maxHeartbeats 4000000
structure LineM where
  first : Int
  last : Int
  n : Int
def LineM.cells (x : LineM) : List Value := [.int .i64 x.first, .int .i64 x.last, .int .i64 x.n]
theorem LineM.cells_len (x : LineM) : x.cells.length = 3 := rfl
theorem LineM.one (x : LineM) : ∀ u ∈ x.cells, u.oneCell' = true := by intro u hu; simp [LineM.cells] at hu; rcases hu with rfl | rfl | rfl <;> rfl
theorem lineE : ElemT Tryz.prog 295 (.agg (LineM.mk 0 0 0).cells.toArray) 3 24 := by unfold ElemT; kernel_rfl
structure LinkM where
  line : Int
  next : Int
def LinkM.cells (x : LinkM) : List Value := [.int .i64 x.line, .int .i64 x.next]
theorem LinkM.cells_len (x : LinkM) : x.cells.length = 2 := rfl
theorem LinkM.one (x : LinkM) : ∀ u ∈ x.cells, u.oneCell' = true := by intro u hu; simp [LinkM.cells] at hu; rcases hu with rfl | rfl <;> rfl
theorem linkE : ElemT Tryz.prog 312 (.agg (LinkM.mk 0 0).cells.toArray) 2 16 := by unfold ElemT; kernel_rfl
theorem mem_allS {M M2 : List Nat} (hs : M2.all (M.contains ·) = true) {s : Nat} (h : s ∈ M2) : s ∈ M := by simpa using List.all_eq_true.1 hs s h
def lineZ : LineM := ⟨-1, -1, 0⟩
def linkZ : LinkM := ⟨-1, -1⟩
theorem set_rep {α : Type} (a b : α) (i k : Nat) (h : i < k) : ((List.replicate i a) ++ List.replicate (k - i) b).set i a = List.replicate (i + 1) a ++ List.replicate (k - (i + 1)) b := by
  rw [List.set_append_right _ _ (by simp), List.length_replicate, Nat.sub_self, show k - i = (k - (i + 1)) + 1 by omega, List.replicate_succ, List.set_cons_zero, List.replicate_succ', List.append_assoc]
  rfl
def ChainsNewR (n m : Int) (w : World) (v : Value) (w' : World) : Prop := More w w' ∧ ∃ (b c p k j : Nat), v = .tuple #[.pointer (some ⟨p, 0, none⟩), .int .i64 0] ∧ (k : Int) = n ∧ (j : Int) = m ∧ w.heap.size ≤ b ∧ w.heap.size ≤ c ∧ w.heap.size ≤ p ∧ b ≠ c ∧ b ≠ p ∧ c ≠ p ∧
      Blk w' b 295 ((List.replicate k lineZ).flatMap LineM.cells) ∧ Blk w' c 312 ((List.replicate j linkZ).flatMap LinkM.cells) ∧
      Blk w' p 299 [.slice (some ⟨b, 0, none⟩) k k, .slice (some ⟨c, 0, none⟩) j j]
def ChL (b c p k j : Nat) (w0 : World) (v34 : Value) (w : World) : Prop := ∃ i : Nat, v34 = .int .i64 i ∧ i ≤ k ∧ More w0 w ∧
    Blk w b 295 ((List.replicate i lineZ ++ List.replicate (k - i) (LineM.mk 0 0 0)).flatMap LineM.cells) ∧ Blk w c 312 ((List.replicate j (LinkM.mk 0 0)).flatMap LinkM.cells) ∧
    Blk w p 299 [.slice (some ⟨b, 0, none⟩) k k, .slice (some ⟨c, 0, none⟩) j j]
def ChP (b c p k j : Nat) (w0 : World) (v50 : Value) (w : World) : Prop := ∃ i : Nat, v50 = .int .i64 i ∧ i ≤ j ∧ More w0 w ∧
    Blk w b 295 ((List.replicate k lineZ).flatMap LineM.cells) ∧ Blk w c 312 ((List.replicate i linkZ ++ List.replicate (j - i) (LinkM.mk 0 0)).flatMap LinkM.cells) ∧
    Blk w p 299 [.slice (some ⟨b, 0, none⟩) k k, .slice (some ⟨c, 0, none⟩) j j]
theorem chain_new (w : World) (n m : Int) (h : (1 ≤ n ∧ n ≤ 129) ∧ (1 ≤ m ∧ m ≤ 4096)) : Ret Tryz.prog 153 #[.int .i64 n, .int .i64 m] w (ChainsNewR n m w) := by
  refine ret_of Tryz.func153 rfl (by kernel_rfl) (Nat.le_of_ble_eq_true (by kernel_rfl)) ?_
  have h1 : ¬ n < 1 := by omega
  have h2 : ¬ (129 : Int) < n := by omega
  have h3 : ¬ m < 1 := by omega
  have h4 : ¬ (4096 : Int) < m := by omega
  obtain ⟨k, rfl⟩ := Int.eq_ofNat_of_zero_le (show 0 ≤ n by omega)
  obtain ⟨j, rfl⟩ := Int.eq_ofNat_of_zero_le (show 0 ≤ m by omega)
  simp (config := {maxSteps := 1000000, implicitDefEqProofs := false}) only [↓zvN, zvU, ↓up_apply, ↓hv_apply, ↓upO_some, ↓upO_none, ↓ev_tmp, ↓ev_const, ↓ev_func, ↓ev_global, init, Nat.reduceEqDiff, Nat.reduceAdd, Nat.reduceMul, Nat.reduceSub, ↓reduceIte, Int.reduceEq, Int.reduceNe, Nat.reduceLeDiff, one, Value.cells, Int.reduceLE, Int.reduceLT, Int.reduceToNat, add_mk, reduceCtorEq, List.mem_range'_1, true_and, and_true, and_false, false_and, Nat.reduceLT, Nat.reduceLeDiff, tyF, h1, h2, h3, h4]
  refine draw_seen 4 [[], [0], [], [2], [0, 1, 2, 3], [0, 1, 2, 3, 4], [0, 1, 2, 3, 4, 5]] (RV.look [(1, MadeF w.heap.size 295 k k ((List.replicate k (LineM.mk 0 0 0)).flatMap LineM.cells)), (3, MadeF w.heap.size 312 j j ((List.replicate j (LinkM.mk 0 0)).flatMap LinkM.cells))]) mixed (by kernel_rfl) (by kernel_rfl) (look_keeps _ (by
    intro z hz
    simp only [List.mem_cons, List.not_mem_nil, or_false] at hz
    rcases hz with rfl | rfl
    · exact keepsM _ _ _ _ _
    · exact keepsM _ _ _ _ _)) ?_
  simp (config := {maxSteps := 1000000, implicitDefEqProofs := false}) only [↓zvN, zvU, ↓zqD, ↓up_apply, ↓hv_apply, ↓upO_some, ↓upO_none, ↓ev_tmp, ↓ev_const, ↓ev_func, ↓ev_global, init, Nat.reduceEqDiff, Nat.reduceAdd, Nat.reduceMul, Nat.reduceSub, ↓reduceIte, Int.reduceEq, Int.reduceNe, Nat.reduceLeDiff, one, Value.cells, Int.reduceLE, Int.reduceLT, Int.reduceToNat, add_mk, reduceCtorEq, List.mem_range'_1, true_and, and_true, and_false, false_and, Nat.reduceLT, Nat.reduceLeDiff, tyF]
  refine ⟨fun w1 hm1 => ?_, ?_⟩
  · refine mk_slice Tryz.underlying296 lineE (by omega) (by simp only [maxLen]; omega) ?_
    have hb := Blk.new w1 295 (madeCells (LineM.mk 0 0 0).cells.toArray (k * 3))
    rw [made_row (LineM.mk 0 0 0) (LineM.cells_len _) (by omega) _ rfl k] at hb
    simp (config := {maxSteps := 1000000, implicitDefEqProofs := false}) only [↓zvN, zvU, ↓zqD, ↓up_apply, ↓hv_apply, ↓upO_some, ↓upO_none, ↓ev_tmp, ↓ev_const, ↓ev_func, ↓ev_global, init, Nat.reduceEqDiff, Nat.reduceAdd, Nat.reduceMul, Nat.reduceSub, ↓reduceIte, Int.reduceEq, Int.reduceNe, Nat.reduceLeDiff, one, Value.cells, Int.reduceLE, Int.reduceLT, Int.reduceToNat, add_mk, reduceCtorEq, List.mem_range'_1, true_and, and_true, and_false, false_and, Nat.reduceLT, Nat.reduceLeDiff, tyF]
    exact ⟨more_alloc _ _, _, rfl, hm1.size, hb⟩
  rintro _ ⟨w1, hm1, b, rfl, hb, hbb⟩
  simp (config := {maxSteps := 1000000, implicitDefEqProofs := false}) only [↓zvN, zvU, ↓zqD, ↓up_apply, ↓hv_apply, ↓upO_some, ↓upO_none, ↓ev_tmp, ↓ev_const, ↓ev_func, ↓ev_global, init, Nat.reduceEqDiff, Nat.reduceAdd, Nat.reduceMul, Nat.reduceSub, ↓reduceIte, Int.reduceEq, Int.reduceNe, Nat.reduceLeDiff, one, Value.cells, Int.reduceLE, Int.reduceLT, Int.reduceToNat, add_mk, reduceCtorEq, List.mem_range'_1, true_and, and_true, and_false, false_and, Nat.reduceLT, Nat.reduceLeDiff, tyF]
  refine ⟨fun w2 hm2 => ?_, ?_⟩
  · refine mk_slice Tryz.underlying297 linkE (by omega) (by simp only [maxLen]; omega) ?_
    have hb := Blk.new w2 312 (madeCells (LinkM.mk 0 0).cells.toArray (j * 2))
    rw [made_row (LinkM.mk 0 0) (LinkM.cells_len _) (by omega) _ rfl j] at hb
    simp (config := {maxSteps := 1000000, implicitDefEqProofs := false}) only [↓zvN, zvU, ↓zqD, ↓up_apply, ↓hv_apply, ↓upO_some, ↓upO_none, ↓ev_tmp, ↓ev_const, ↓ev_func, ↓ev_global, init, Nat.reduceEqDiff, Nat.reduceAdd, Nat.reduceMul, Nat.reduceSub, ↓reduceIte, Int.reduceEq, Int.reduceNe, Nat.reduceLeDiff, one, Value.cells, Int.reduceLE, Int.reduceLT, Int.reduceToNat, add_mk, reduceCtorEq, List.mem_range'_1, true_and, and_true, and_false, false_and, Nat.reduceLT, Nat.reduceLeDiff, tyF]
    exact ⟨more_alloc _ _, _, rfl, hm2.size, hb⟩
  rintro _ ⟨w2, hm2, hF, c, rfl, hc, hcc⟩
  simp (config := {maxSteps := 1000000, implicitDefEqProofs := false}) only [↓zvN, zvU, ↓zqD, ↓up_apply, ↓hv_apply, ↓upO_some, ↓upO_none, ↓ev_tmp, ↓ev_const, ↓ev_func, ↓ev_global, init, Nat.reduceEqDiff, Nat.reduceAdd, Nat.reduceMul, Nat.reduceSub, ↓reduceIte, Int.reduceEq, Int.reduceNe, Nat.reduceLeDiff, one, Value.cells, Int.reduceLE, Int.reduceLT, Int.reduceToNat, add_mk, reduceCtorEq, List.mem_range'_1, true_and, and_true, and_false, false_and, Nat.reduceLT, Nat.reduceLeDiff, tyF]
  rintro w3 hm3 ⟨⟨b', e1, _, hB⟩, c', e2, _, hC⟩
  cases e1
  cases e2
  have hbc : b ≠ c := by
    rintro rfl
    exact absurd (blk_ty hB hC) (by decide)
  have hbl := hB.lt
  have hcl := hC.lt
  have b1 := build_of (P := Tryz.prog) (T := 299) (parts := #[(0, .slice (some ⟨b, 0, none⟩) k k), (1, .slice (some ⟨c, 0, none⟩) j j)]) [.slice (some ⟨b, 0, none⟩) k k, .slice (some ⟨c, 0, none⟩) j j] (by kernel_rfl) zer299 (by kernel_rfl) w3
  rw [b1]
  simp (config := {maxSteps := 1000000, implicitDefEqProofs := false}) only [↓zvN, zvU, ↓up_apply, ↓hv_apply, ↓upO_some, ↓upO_none, ↓ev_tmp, ↓ev_const, ↓ev_func, ↓ev_global, init, Nat.reduceEqDiff, Nat.reduceAdd, Nat.reduceMul, Nat.reduceSub, ↓reduceIte, Int.reduceEq, Int.reduceNe, Nat.reduceLeDiff, one, Value.cells, Int.reduceLE, Int.reduceLT, Int.reduceToNat, add_mk, reduceCtorEq, List.mem_range'_1, true_and, and_true, and_false, false_and, Nat.reduceLT, Nat.reduceLeDiff, tyF, p_nil]
  have hm4 := more_alloc w3 (.cells #[.slice (some ⟨b, 0, none⟩) k k, .slice (some ⟨c, 0, none⟩) j j] 299)
  have hP4 := Blk.new w3 299 #[.slice (some ⟨b, 0, none⟩) k k, .slice (some ⟨c, 0, none⟩) j j]
  obtain ⟨p, hp⟩ : ∃ p, w3.heap.size = p := ⟨_, rfl⟩
  have hwp : w.heap.size ≤ p := by have := hm3.size; omega
  rw [hp] at hP4 hbl hcl ⊢
  obtain ⟨w4, hw4⟩ : ∃ w4, w3.alloc (.cells #[.slice (some ⟨b, 0, none⟩) k k, .slice (some ⟨c, 0, none⟩) j j] 299) = w4 := ⟨_, rfl⟩
  rw [hw4] at hm4 hP4 ⊢
  clear hw4
  have hB4 := hB.more hm4
  have hC4 := hC.more hm4
  have c0 : ∀ {w' : World}, Blk w' p 299 [.slice (some ⟨b, 0, none⟩) k k, .slice (some ⟨c, 0, none⟩) j j] → w'.cell? ⟨p, 0, none⟩ = some (.slice (some ⟨b, 0, none⟩) k k) ∧ w'.cell? ⟨p, 1, none⟩ = some (.slice (some ⟨c, 0, none⟩) j j) := fun h => ⟨by rw [h.cell]; rfl, by rw [h.cell]; rfl⟩
  simp (config := {maxSteps := 1000000, implicitDefEqProofs := false}) only [↓zvN, zvU, ↓up_apply, ↓hv_apply, ↓upO_some, ↓upO_none, ↓ev_tmp, ↓ev_const, ↓ev_func, ↓ev_global, init, Nat.reduceEqDiff, Nat.reduceAdd, Nat.reduceMul, Nat.reduceSub, ↓reduceIte, Int.reduceEq, Int.reduceNe, Nat.reduceLeDiff, one, Value.cells, Int.reduceLE, Int.reduceLT, Int.reduceToNat, add_mk, reduceCtorEq, List.mem_range'_1, true_and, and_true, and_false, false_and, Nat.reduceLT, Nat.reduceLeDiff, tyF, p_nil, (c0 hP4).1]
  have bl := fun w5 => build_of (P := Tryz.prog) (T := 295) (parts := #[(0, .int .i64 (-1)), (1, .int .i64 (-1)), (2, .int .i64 0)]) lineZ.cells (by kernel_rfl) zer295 (by kernel_rfl) w5
  have bk := fun w5 => build_of (P := Tryz.prog) (T := 312) (parts := #[(0, .int .i64 (-1)), (1, .int .i64 (-1))]) linkZ.cells (by kernel_rfl) zer312 (by kernel_rfl) w5
  refine loop_p (7 :: List.range' 34 11) (fun e w' => ChL b c p k j w (e 34) w') (fun e _ => k - (numOf (e 34)).toNat) ?_ ?_
  · exact ⟨0, by simp only [hv_apply, up_apply, upO_some, upO_none, init, List.mem_cons, List.mem_range'_1, true_and, and_true, and_false, false_and, Nat.reduceLT, Nat.reduceLeDiff, Nat.reduceAdd, true_or, or_true, if_true, if_false, ↓reduceIte, Nat.reduceEqDiff, false_or, or_false, List.not_mem_nil, List.getElem?_cons_zero, List.getElem?_cons_succ, Option.getD_some] <;> rfl, by omega, hm3.trans hm4, by simpa using hB4, hC4, hP4⟩
  rintro v w5 ⟨i, h34, hi, hm5, hB5, hC5, hP5⟩
  simp only [hv_apply, up_apply, upO_some, upO_none, init, List.mem_cons, List.mem_range'_1, true_and, and_true, and_false, false_and, Nat.reduceLT, Nat.reduceLeDiff, Nat.reduceAdd, true_or, or_true, if_true, if_false, ↓reduceIte, Nat.reduceEqDiff, false_or, or_false, List.not_mem_nil, List.getElem?_cons_zero, List.getElem?_cons_succ, Option.getD_some] at h34
  have ei : IntKind.i64.wrap ((i : Int) + 1) = ((i + 1 : Nat) : Int) := w64 (by omega) (by omega)
  simp (config := {maxSteps := 1000000, implicitDefEqProofs := false}) only [↓zvN, zvU, ↓up_apply, ↓hv_apply, ↓upO_some, ↓upO_none, ↓ev_tmp, ↓ev_const, ↓ev_func, ↓ev_global, init, Nat.reduceEqDiff, Nat.reduceAdd, Nat.reduceMul, Nat.reduceSub, ↓reduceIte, Int.reduceEq, Int.reduceNe, Nat.reduceLeDiff, one, Value.cells, Int.reduceLE, Int.reduceLT, Int.reduceToNat, add_mk, reduceCtorEq, List.mem_range'_1, true_and, and_true, and_false, false_and, Nat.reduceLT, Nat.reduceLeDiff, tyF, h34]
  refine ⟨fun h9 => ?_, fun h9 => ?_⟩
  · have g0 : (0 : Int) ≤ (i : Int) := by omega
    have bl5 := bl w5
    simp (config := {maxSteps := 1000000, implicitDefEqProofs := false}) only [↓zvN, zvU, ↓up_apply, ↓hv_apply, ↓upO_some, ↓upO_none, ↓ev_tmp, ↓ev_const, ↓ev_func, ↓ev_global, init, Nat.reduceEqDiff, Nat.reduceAdd, Nat.reduceMul, Nat.reduceSub, ↓reduceIte, Int.reduceEq, Int.reduceNe, Nat.reduceLeDiff, one, Value.cells, Int.reduceLE, Int.reduceLT, Int.reduceToNat, add_mk, reduceCtorEq, List.mem_range'_1, true_and, and_true, and_false, false_and, Nat.reduceLT, Nat.reduceLeDiff, tyF, h34, (c0 hP5).1, bl5, g0, h9, Int.toNat_natCast]
    refine blk_setRow hB5 (fun m _ => LineM.cells_len m) (i := i) (by simp; omega) rfl (LineM.one _) fun w6 k1 k2 => ?_
    rw [s2_undef]
    rw [set_rep _ _ _ _ (by omega)] at k2
    simp (config := {maxSteps := 1000000, implicitDefEqProofs := false}) only [↓zvN, zvU, ↓up_apply, ↓hv_apply, ↓upO_some, ↓upO_none, ↓ev_tmp, ↓ev_const, ↓ev_func, ↓ev_global, init, Nat.reduceEqDiff, Nat.reduceAdd, Nat.reduceMul, Nat.reduceSub, ↓reduceIte, Int.reduceEq, Int.reduceNe, Nat.reduceLeDiff, one, Value.cells, Int.reduceLE, Int.reduceLT, Int.reduceToNat, add_mk, reduceCtorEq, List.mem_range'_1, true_and, and_true, and_false, false_and, Nat.reduceLT, Nat.reduceLeDiff, tyF, h34, ei]
    refine ⟨⟨?_, i + 1, rfl, by omega, k1.below hm5 hb, k2, k1.blk hC5 (by omega), k1.blk hP5 (by omega)⟩, by simp only [numOf]; omega⟩
    repeat (first | exact Same.hv _ _ _ | refine Same.up (by simp) ?_)
  obtain rfl : i = k := by omega
  rw [Nat.sub_self, List.replicate_zero, List.append_nil] at hB5
  simp (config := {maxSteps := 1000000, implicitDefEqProofs := false}) only [↓zvN, zvU, ↓up_apply, ↓hv_apply, ↓upO_some, ↓upO_none, ↓ev_tmp, ↓ev_const, ↓ev_func, ↓ev_global, init, Nat.reduceEqDiff, Nat.reduceAdd, Nat.reduceMul, Nat.reduceSub, ↓reduceIte, Int.reduceEq, Int.reduceNe, Nat.reduceLeDiff, one, Value.cells, Int.reduceLE, Int.reduceLT, Int.reduceToNat, add_mk, reduceCtorEq, List.mem_range'_1, true_and, and_true, and_false, false_and, Nat.reduceLT, Nat.reduceLeDiff, tyF, (c0 hP5).2]
  refine loop_p (8 :: List.range' 50 11) (fun e w' => ChP b c p i j w (e 50) w') (fun e _ => j - (numOf (e 50)).toNat) ?_ ?_
  · exact ⟨0, by simp only [hv_apply, up_apply, upO_some, upO_none, init, List.mem_cons, List.mem_range'_1, true_and, and_true, and_false, false_and, Nat.reduceLT, Nat.reduceLeDiff, Nat.reduceAdd, true_or, or_true, if_true, if_false, ↓reduceIte, Nat.reduceEqDiff, false_or, or_false, List.not_mem_nil, List.getElem?_cons_zero, List.getElem?_cons_succ, Option.getD_some] <;> rfl, by omega, hm5, hB5, by simpa using hC5, hP5⟩
  rintro v2 w7 ⟨x, h50, hx, hm7, hB7, hC7, hP7⟩
  simp only [hv_apply, up_apply, upO_some, upO_none, init, List.mem_cons, List.mem_range'_1, true_and, and_true, and_false, false_and, Nat.reduceLT, Nat.reduceLeDiff, Nat.reduceAdd, true_or, or_true, if_true, if_false, ↓reduceIte, Nat.reduceEqDiff, false_or, or_false, List.not_mem_nil, List.getElem?_cons_zero, List.getElem?_cons_succ, Option.getD_some] at h50
  have ex : IntKind.i64.wrap ((x : Int) + 1) = ((x + 1 : Nat) : Int) := w64 (by omega) (by omega)
  simp (config := {maxSteps := 1000000, implicitDefEqProofs := false}) only [↓zvN, zvU, ↓up_apply, ↓hv_apply, ↓upO_some, ↓upO_none, ↓ev_tmp, ↓ev_const, ↓ev_func, ↓ev_global, init, Nat.reduceEqDiff, Nat.reduceAdd, Nat.reduceMul, Nat.reduceSub, ↓reduceIte, Int.reduceEq, Int.reduceNe, Nat.reduceLeDiff, one, Value.cells, Int.reduceLE, Int.reduceLT, Int.reduceToNat, add_mk, reduceCtorEq, List.mem_range'_1, true_and, and_true, and_false, false_and, Nat.reduceLT, Nat.reduceLeDiff, tyF, h50]
  refine ⟨fun h9 => ?_, fun h9 => ?_⟩
  · have g0 : (0 : Int) ≤ (x : Int) := by omega
    have bk7 := bk w7
    simp (config := {maxSteps := 1000000, implicitDefEqProofs := false}) only [↓zvN, zvU, ↓up_apply, ↓hv_apply, ↓upO_some, ↓upO_none, ↓ev_tmp, ↓ev_const, ↓ev_func, ↓ev_global, init, Nat.reduceEqDiff, Nat.reduceAdd, Nat.reduceMul, Nat.reduceSub, ↓reduceIte, Int.reduceEq, Int.reduceNe, Nat.reduceLeDiff, one, Value.cells, Int.reduceLE, Int.reduceLT, Int.reduceToNat, add_mk, reduceCtorEq, List.mem_range'_1, true_and, and_true, and_false, false_and, Nat.reduceLT, Nat.reduceLeDiff, tyF, h50, (c0 hP7).2, bk7, g0, h9, Int.toNat_natCast]
    refine blk_setRow hC7 (fun m _ => LinkM.cells_len m) (i := x) (by simp; omega) rfl (LinkM.one _) fun w8 k1 k2 => ?_
    rw [s2_undef]
    rw [set_rep _ _ _ _ (by omega)] at k2
    simp (config := {maxSteps := 1000000, implicitDefEqProofs := false}) only [↓zvN, zvU, ↓up_apply, ↓hv_apply, ↓upO_some, ↓upO_none, ↓ev_tmp, ↓ev_const, ↓ev_func, ↓ev_global, init, Nat.reduceEqDiff, Nat.reduceAdd, Nat.reduceMul, Nat.reduceSub, ↓reduceIte, Int.reduceEq, Int.reduceNe, Nat.reduceLeDiff, one, Value.cells, Int.reduceLE, Int.reduceLT, Int.reduceToNat, add_mk, reduceCtorEq, List.mem_range'_1, true_and, and_true, and_false, false_and, Nat.reduceLT, Nat.reduceLeDiff, tyF, h50, ex]
    refine ⟨⟨?_, x + 1, rfl, by omega, k1.below hm7 hc, k1.blk hB7 (by omega), k2, k1.blk hP7 (by omega)⟩, by simp only [numOf]; omega⟩
    repeat (first | exact Same.hv _ _ _ | refine Same.hv2 (fun s hs => mem_allS (by decide) hs) ?_ | refine Same.up (by simp) ?_)
  obtain rfl : x = j := by omega
  rw [Nat.sub_self, List.replicate_zero, List.append_nil] at hC7
  try simp (config := {maxSteps := 1000000, implicitDefEqProofs := false}) only [↓zvN, zvU, ↓up_apply, ↓hv_apply, ↓upO_some, ↓upO_none, ↓ev_tmp, ↓ev_const, ↓ev_func, ↓ev_global, init, Nat.reduceEqDiff, Nat.reduceAdd, Nat.reduceMul, Nat.reduceSub, ↓reduceIte, Int.reduceEq, Int.reduceNe, Nat.reduceLeDiff, one, Value.cells, Int.reduceLE, Int.reduceLT, Int.reduceToNat, add_mk, reduceCtorEq, List.mem_range'_1, true_and, and_true, and_false, false_and, Nat.reduceLT, Nat.reduceLeDiff, tyF]
  exact ⟨hm7, b, c, p, i, x, rfl, rfl, rfl, hb, hc, hwp, hbc, by omega, by omega, hB7, hC7, hP7⟩
/-- a place of the slab -/
structure PlcM where
  x : PackM
  taken : Bool
  next : Int
def PlcM.cells (y : PlcM) : List Value := y.x.cells ++ [.bool y.taken, .int .i64 y.next]
def PlcM.Fit (y : PlcM) : Prop := y.x.flow.Fit ∧ y.x.pref.addr.length = 7
theorem pack_len {p : PackM} (h : p.flow.Fit) (hp : p.pref.addr.length = 7) : p.cells.length = 46 := by simp [PackM.cells, PrefM.cells, FlowM.cells_len h, hp]
theorem PlcM.cells_len {y : PlcM} (h : y.Fit) : y.cells.length = 48 := by simp [PlcM.cells, pack_len h.1 h.2]
theorem PlcM.one (y : PlcM) : ∀ u ∈ y.cells, u.oneCell' = true := by
  intro u hu
  simp only [PlcM.cells, List.mem_append, List.mem_cons, List.not_mem_nil, or_false] at hu
  rcases hu with hu | rfl | rfl
  · exact PackM.one _ u hu
  · rfl
  · rfl
theorem packZ_fit : packZ.flow.Fit ∧ packZ.pref.addr.length = 7 := ⟨flowZ_fit, rfl⟩
def plcZ : PlcM := ⟨packZ, false, 0⟩
theorem plcE : ElemT Tryz.prog 314 (.agg plcZ.cells.toArray) 48 80 := by unfold ElemT; kernel_rfl
/-- the places of a new slab -/
def plcs (m : Nat) : List PlcM := (List.range m).map fun i => ⟨packZ, false, if i + 1 = m then -1 else (i : Int) + 1⟩
def SlabNewR (n : Int) (w : World) (v : Value) (w' : World) : Prop := More w w' ∧ ∃ (b p m : Nat), v = .tuple #[.pointer (some ⟨p, 0, none⟩), .int .i64 0] ∧ (m : Int) = n ∧ w.heap.size ≤ b ∧ w.heap.size ≤ p ∧ b ≠ p ∧
      Blk w' b 314 ((plcs m).flatMap PlcM.cells) ∧ Blk w' p 303 [.slice (some ⟨b, 0, none⟩) m m, .int .i64 0, .int .i64 m]
def plcK (m i : Nat) : List PlcM := ((List.range i).map fun x => ⟨packZ, false, (x : Int) + 1⟩) ++ List.replicate (m - i) plcZ
theorem plcK_set (m i : Nat) (h : i < m) : (plcK m i).set i ⟨packZ, false, (i : Int) + 1⟩ = plcK m (i + 1) := by
  unfold plcK
  rw [List.set_append_right _ _ (by simp), List.length_map, List.length_range, Nat.sub_self, show m - i = (m - (i + 1)) + 1 by omega, List.replicate_succ, List.set_cons_zero, List.range_succ, List.map_append, List.append_assoc]
  rfl
theorem plcK_at (m i : Nat) (h : i < m) : (plcK m i)[i]? = some plcZ := by
  unfold plcK
  rw [List.getElem?_append_right (by simp), List.length_map, List.length_range, Nat.sub_self, List.getElem?_replicate, if_pos (by omega)]
theorem plcK_fit (m i : Nat) : ∀ y ∈ plcK m i, y.cells.length = 48 := by
  intro y hy
  unfold plcK at hy
  rw [List.mem_append] at hy
  rcases hy with hy | hy
  · obtain ⟨x, _, rfl⟩ := List.mem_map.1 hy
    exact PlcM.cells_len packZ_fit
  · rw [List.eq_of_mem_replicate hy]
    exact PlcM.cells_len packZ_fit
theorem plcK_end (m : Nat) (h : 0 < m) : (plcK m m).set (m - 1) ⟨packZ, false, -1⟩ = plcs m := by
  unfold plcK plcs
  rw [Nat.sub_self, List.replicate_zero, List.append_nil]
  apply List.ext_getElem?
  intro k
  by_cases e : m - 1 = k
  · subst e
    rw [List.getElem?_set_self (by simp; omega), List.getElem?_map, List.getElem?_range (by omega)]
    simp only [Option.map_some]
    rw [if_pos (by omega)]
  · rw [List.getElem?_set_ne e, List.getElem?_map, List.getElem?_map]
    rcases Nat.lt_or_ge k m with h1 | h1
    · rw [List.getElem?_range h1]
      simp only [Option.map_some]
      rw [if_neg (by omega)]
    · rw [List.getElem?_eq_none (by simpa using h1)]
      rfl
theorem plc_next (y : PlcM) (h : y.Fit) (v : Int) : y.cells.set 47 (.int .i64 v) = (PlcM.mk y.x y.taken v).cells := by
  unfold PlcM.cells
  rw [List.set_append_right _ _ (by rw [pack_len h.1 h.2]; omega), pack_len h.1 h.2]
  rfl
def SlJ (b p m : Nat) (w0 : World) (v22 : Value) (w : World) : Prop := ∃ i : Nat, v22 = .int .i64 i ∧ i ≤ m ∧ More w0 w ∧
    Blk w b 314 ((plcK m i).flatMap PlcM.cells) ∧ Blk w p 303 [.slice (some ⟨b, 0, none⟩) m m, .int .i64 0, .int .i64 m]
theorem slab_new (w : World) (n : Int) (h : 1 ≤ n ∧ n ≤ 4096) : Ret Tryz.prog 154 #[.int .i64 n] w (SlabNewR n w) := by
  refine ret_of Tryz.func154 rfl (by kernel_rfl) (Nat.le_of_ble_eq_true (by kernel_rfl)) ?_
  have h1 : ¬ n < 1 := by omega
  have h2 : ¬ (4096 : Int) < n := by omega
  obtain ⟨m, rfl⟩ := Int.eq_ofNat_of_zero_le (show 0 ≤ n by omega)
  simp (config := {maxSteps := 1000000, implicitDefEqProofs := false}) only [↓zvN, zvU, ↓up_apply, ↓hv_apply, ↓upO_some, ↓upO_none, ↓ev_tmp, ↓ev_const, ↓ev_func, ↓ev_global, init, Nat.reduceEqDiff, Nat.reduceAdd, Nat.reduceMul, Nat.reduceSub, ↓reduceIte, Int.reduceEq, Int.reduceNe, Nat.reduceLeDiff, one, Value.cells, Int.reduceLE, Int.reduceLT, Int.reduceToNat, add_mk, reduceCtorEq, List.mem_range'_1, true_and, and_true, and_false, false_and, Nat.reduceLT, Nat.reduceLeDiff, tyF, h1, h2]
  refine mk_slice Tryz.underlying301 plcE (by omega) (by simp only [maxLen]; omega) ?_
  have hm2 := more_alloc w (.cells (madeCells plcZ.cells.toArray (m * 48)) 314)
  have hb2 := Blk.new w 314 (madeCells plcZ.cells.toArray (m * 48))
  rw [made_row plcZ (PlcM.cells_len packZ_fit) (by omega) _ rfl m] at hb2
  rw [show (Value.agg plcZ.cells.toArray).cells = plcZ.cells.toArray from rfl]
  obtain ⟨w2, hw2⟩ : ∃ w2, w.alloc (.cells (madeCells plcZ.cells.toArray (m * 48)) 314) = w2 := ⟨_, rfl⟩
  rw [hw2] at hm2 hb2 ⊢
  clear hw2
  obtain ⟨b, hb⟩ : ∃ b, w.heap.size = b := ⟨_, rfl⟩
  rw [hb] at hb2 ⊢
  have b1 := build_of (P := Tryz.prog) (T := 303) (parts := #[(0, .slice (some ⟨b, 0, none⟩) m m), (2, .int .i64 m)]) [.slice (some ⟨b, 0, none⟩) m m, .int .i64 0, .int .i64 m] (by kernel_rfl) zer303 (by kernel_rfl) w2
  simp (config := {maxSteps := 1000000, implicitDefEqProofs := false}) only [↓zvN, zvU, ↓up_apply, ↓hv_apply, ↓upO_some, ↓upO_none, ↓ev_tmp, ↓ev_const, ↓ev_func, ↓ev_global, init, Nat.reduceEqDiff, Nat.reduceAdd, Nat.reduceMul, Nat.reduceSub, ↓reduceIte, Int.reduceEq, Int.reduceNe, Nat.reduceLeDiff, one, Value.cells, Int.reduceLE, Int.reduceLT, Int.reduceToNat, add_mk, reduceCtorEq, List.mem_range'_1, true_and, and_true, and_false, false_and, Nat.reduceLT, Nat.reduceLeDiff, tyF, b1]
  have hm3 := more_alloc w2 (.cells #[.slice (some ⟨b, 0, none⟩) m m, .int .i64 0, .int .i64 m] 303)
  have hP3 := Blk.new w2 303 #[.slice (some ⟨b, 0, none⟩) m m, .int .i64 0, .int .i64 m]
  have hbl := hb2.lt
  obtain ⟨p, hp⟩ : ∃ p, w2.heap.size = p := ⟨_, rfl⟩
  have hwp : w.heap.size ≤ p := by have := hm2.size; omega
  rw [hp] at hP3 hbl ⊢
  obtain ⟨w3, hw3⟩ : ∃ w3, w2.alloc (.cells #[.slice (some ⟨b, 0, none⟩) m m, .int .i64 0, .int .i64 m] 303) = w3 := ⟨_, rfl⟩
  rw [hw3] at hm3 hP3 ⊢
  clear hw3
  have hB3 := hb2.more hm3
  have c0 : ∀ {w' : World}, Blk w' p 303 [.slice (some ⟨b, 0, none⟩) m m, .int .i64 0, .int .i64 m] → w'.cell? ⟨p, 0, none⟩ = some (.slice (some ⟨b, 0, none⟩) m m) := fun h => by rw [h.cell]; rfl
  simp (config := {maxSteps := 1000000, implicitDefEqProofs := false}) only [↓zvN, zvU, ↓up_apply, ↓hv_apply, ↓upO_some, ↓upO_none, ↓ev_tmp, ↓ev_const, ↓ev_func, ↓ev_global, init, Nat.reduceEqDiff, Nat.reduceAdd, Nat.reduceMul, Nat.reduceSub, ↓reduceIte, Int.reduceEq, Int.reduceNe, Nat.reduceLeDiff, one, Value.cells, Int.reduceLE, Int.reduceLT, Int.reduceToNat, add_mk, reduceCtorEq, List.mem_range'_1, true_and, and_true, and_false, false_and, Nat.reduceLT, Nat.reduceLeDiff, tyF, c0 hP3]
  refine loop_p (5 :: List.range' 22 13) (fun e w' => SlJ b p m w (e 22) w') (fun e _ => m - (numOf (e 22)).toNat) ?_ ?_
  · exact ⟨0, by simp only [hv_apply, up_apply, upO_some, upO_none, init, List.mem_cons, List.mem_range'_1, true_and, and_true, and_false, false_and, Nat.reduceLT, Nat.reduceLeDiff, Nat.reduceAdd, true_or, or_true, if_true, if_false, ↓reduceIte, Nat.reduceEqDiff, false_or, or_false, List.not_mem_nil, List.getElem?_cons_zero, List.getElem?_cons_succ, Option.getD_some] <;> rfl, by omega, hm2.trans hm3, by simpa [plcK] using hB3, hP3⟩
  rintro v w5 ⟨i, h22, hi, hm5, hB5, hP5⟩
  simp only [hv_apply, up_apply, upO_some, upO_none, init, List.mem_cons, List.mem_range'_1, true_and, and_true, and_false, false_and, Nat.reduceLT, Nat.reduceLeDiff, Nat.reduceAdd, true_or, or_true, if_true, if_false, ↓reduceIte, Nat.reduceEqDiff, false_or, or_false, List.not_mem_nil, List.getElem?_cons_zero, List.getElem?_cons_succ, Option.getD_some] at h22
  have ei : IntKind.i64.wrap ((i : Int) + 1) = ((i : Int) + 1) := w64 (by omega) (by omega)
  simp (config := {maxSteps := 1000000, implicitDefEqProofs := false}) only [↓zvN, zvU, ↓up_apply, ↓hv_apply, ↓upO_some, ↓upO_none, ↓ev_tmp, ↓ev_const, ↓ev_func, ↓ev_global, init, Nat.reduceEqDiff, Nat.reduceAdd, Nat.reduceMul, Nat.reduceSub, ↓reduceIte, Int.reduceEq, Int.reduceNe, Nat.reduceLeDiff, one, Value.cells, Int.reduceLE, Int.reduceLT, Int.reduceToNat, add_mk, reduceCtorEq, List.mem_range'_1, true_and, and_true, and_false, false_and, Nat.reduceLT, Nat.reduceLeDiff, tyF, h22]
  refine ⟨fun h9 => ?_, fun h9 => ?_⟩
  · have g0 : (0 : Int) ≤ (i : Int) := by omega
    simp (config := {maxSteps := 1000000, implicitDefEqProofs := false}) only [↓zvN, zvU, ↓up_apply, ↓hv_apply, ↓upO_some, ↓upO_none, ↓ev_tmp, ↓ev_const, ↓ev_func, ↓ev_global, init, Nat.reduceEqDiff, Nat.reduceAdd, Nat.reduceMul, Nat.reduceSub, ↓reduceIte, Int.reduceEq, Int.reduceNe, Nat.reduceLeDiff, one, Value.cells, Int.reduceLE, Int.reduceLT, Int.reduceToNat, add_mk, reduceCtorEq, List.mem_range'_1, true_and, and_true, and_false, false_and, Nat.reduceLT, Nat.reduceLeDiff, tyF, h22, c0 hP5, g0, h9, Int.toNat_natCast, ei]
    refine blk_setElem hB5 (plcK_fit m i) (plcK_at m i (by omega)) (j := 47) (m' := ⟨packZ, false, (i : Int) + 1⟩) (by decide) (plc_next plcZ packZ_fit _) rfl fun w6 k1 k2 => ?_
    rw [s2_undef]
    rw [plcK_set _ _ (by omega)] at k2
    simp (config := {maxSteps := 1000000, implicitDefEqProofs := false}) only [↓zvN, zvU, ↓up_apply, ↓hv_apply, ↓upO_some, ↓upO_none, ↓ev_tmp, ↓ev_const, ↓ev_func, ↓ev_global, init, Nat.reduceEqDiff, Nat.reduceAdd, Nat.reduceMul, Nat.reduceSub, ↓reduceIte, Int.reduceEq, Int.reduceNe, Nat.reduceLeDiff, one, Value.cells, Int.reduceLE, Int.reduceLT, Int.reduceToNat, add_mk, reduceCtorEq, List.mem_range'_1, true_and, and_true, and_false, false_and, Nat.reduceLT, Nat.reduceLeDiff, tyF, h22, ei]
    refine ⟨⟨?_, i + 1, rfl, by omega, k1.below hm5 (by omega), k2, k1.blk hP5 (by omega)⟩, by simp only [numOf]; omega⟩
    repeat (first | exact Same.hv _ _ _ | refine Same.hv2 (fun s hs => mem_allS (by decide) hs) ?_ | refine Same.up (by simp) ?_)
  obtain rfl : i = m := by omega
  have g1 : IntKind.i64.wrap ((i : Int) - 1) = ((i - 1 : Nat) : Int) := by rw [w64 (by omega) (by omega)]; omega
  have g2 : (0 : Int) ≤ ((i - 1 : Nat) : Int) := by omega
  have g3 : ((i - 1 : Nat) : Int) < (i : Int) := by omega
  obtain ⟨z, hz⟩ := row_nat (plcK i i) (i - 1) (by unfold plcK; simp; omega)
  have hz' : z = ⟨packZ, false, ((i - 1 : Nat) : Int) + 1⟩ := by
    unfold plcK at hz
    rw [Nat.sub_self, List.replicate_zero, List.append_nil, List.getElem?_map, List.getElem?_range (by omega)] at hz
    simpa using hz.symm
  simp (config := {maxSteps := 1000000, implicitDefEqProofs := false}) only [↓zvN, zvU, ↓up_apply, ↓hv_apply, ↓upO_some, ↓upO_none, ↓ev_tmp, ↓ev_const, ↓ev_func, ↓ev_global, init, Nat.reduceEqDiff, Nat.reduceAdd, Nat.reduceMul, Nat.reduceSub, ↓reduceIte, Int.reduceEq, Int.reduceNe, Nat.reduceLeDiff, one, Value.cells, Int.reduceLE, Int.reduceLT, Int.reduceToNat, add_mk, reduceCtorEq, List.mem_range'_1, true_and, and_true, and_false, false_and, Nat.reduceLT, Nat.reduceLeDiff, tyF, c0 hP5, g1, g2, g3, Int.toNat_natCast]
  refine blk_setElem hB5 (plcK_fit i i) hz (j := 47) (m' := ⟨packZ, false, -1⟩) (by decide) (by rw [hz']; exact plc_next ⟨packZ, false, ((i - 1 : Nat) : Int) + 1⟩ packZ_fit _) rfl fun w6 k1 k2 => ?_
  rw [s2_undef]
  rw [plcK_end _ (by omega)] at k2
  simp (config := {maxSteps := 1000000, implicitDefEqProofs := false}) only [↓zvN, zvU, ↓up_apply, ↓hv_apply, ↓upO_some, ↓upO_none, ↓ev_tmp, ↓ev_const, ↓ev_func, ↓ev_global, init, Nat.reduceEqDiff, Nat.reduceAdd, Nat.reduceMul, Nat.reduceSub, ↓reduceIte, Int.reduceEq, Int.reduceNe, Nat.reduceLeDiff, one, Value.cells, Int.reduceLE, Int.reduceLT, Int.reduceToNat, add_mk, reduceCtorEq, List.mem_range'_1, true_and, and_true, and_false, false_and, Nat.reduceLT, Nat.reduceLeDiff, tyF]
  exact ⟨k1.below hm5 (by omega), b, p, i, rfl, rfl, by omega, hwp, by omega, k2, k1.blk hP5 (by omega)⟩
/-- a new store's parts -/
structure StoreZ (w : World) (B s sb sp cb cc cp y k m : Nat) : Prop where
  st : Blk w s 235 [.pointer (some ⟨sp, 0, none⟩), .pointer (some ⟨cp, 0, none⟩), .slice (some ⟨y, 0, none⟩) k k]
  bytes : Blk w y 2 (ints (List.replicate k 0))
  slab : Blk w sp 303 [.slice (some ⟨sb, 0, none⟩) m m, .int .i64 0, .int .i64 m]
  places : Blk w sb 314 ((plcs m).flatMap PlcM.cells)
  chains : Blk w cp 299 [.slice (some ⟨cb, 0, none⟩) k k, .slice (some ⟨cc, 0, none⟩) m m]
  lines : Blk w cb 295 ((List.replicate k lineZ).flatMap LineM.cells)
  links : Blk w cc 312 ((List.replicate m linkZ).flatMap LinkM.cells)
  ge : B ≤ s ∧ B ≤ sb ∧ B ≤ sp ∧ B ≤ cb ∧ B ≤ cc ∧ B ≤ cp ∧ B ≤ y
theorem StoreZ.more {w w' : World} {B s sb sp cb cc cp y k m : Nat} (h : StoreZ w B s sb sp cb cc cp y k m) (hm : More w w') : StoreZ w' B s sb sp cb cc cp y k m :=
  ⟨h.st.more hm, h.bytes.more hm, h.slab.more hm, h.places.more hm, h.chains.more hm, h.lines.more hm, h.links.more hm, h.ge⟩
def StoreNewR (n r : Int) (w : World) (v : Value) (w' : World) : Prop := More w w' ∧ ∃ (s sb sp cb cc cp y k m : Nat), v = .tuple #[.pointer (some ⟨s, 0, none⟩), .int .i64 0] ∧ (k : Int) = n ∧ (m : Int) = r ∧ StoreZ w' w.heap.size s sb sp cb cc cp y k m
theorem store_new (w : World) (n r : Int) (h : (1 ≤ n ∧ n ≤ 129) ∧ (1 ≤ r ∧ r ≤ 4096)) : Ret Tryz.prog 92 #[.int .i64 n, .int .i64 r] w (StoreNewR n r w) := by
  refine ret_of Tryz.func92 rfl (by kernel_rfl) (Nat.le_of_ble_eq_true (by kernel_rfl)) ?_
  have h1 : ¬ r < 1 := by omega
  simp (config := {maxSteps := 1000000, implicitDefEqProofs := false}) only [↓zvN, zvU, ↓up_apply, ↓hv_apply, ↓upO_some, ↓upO_none, ↓ev_tmp, ↓ev_const, ↓ev_func, ↓ev_global, init, Nat.reduceEqDiff, Nat.reduceAdd, Nat.reduceMul, Nat.reduceSub, ↓reduceIte, Int.reduceEq, Int.reduceNe, Nat.reduceLeDiff, one, Value.cells, Int.reduceLE, Int.reduceLT, Int.reduceToNat, add_mk, reduceCtorEq, List.mem_range'_1, true_and, and_true, and_false, false_and, Nat.reduceLT, Nat.reduceLeDiff, tyF, h1]
  rw [if_neg h1]
  refine call_ok Tryz.call153 (chain_new w n r h) ?_
  rintro _ w1 ⟨hm1, cb, cc, cp, k, j, rfl, rfl, rfl, hcb, hcc, hcp, _, _, _, hB1, hC1, hP1⟩
  simp (config := {maxSteps := 1000000, implicitDefEqProofs := false}) only [↓zvN, zvU, ↓up_apply, ↓hv_apply, ↓upO_some, ↓upO_none, ↓ev_tmp, ↓ev_const, ↓ev_func, ↓ev_global, init, Nat.reduceEqDiff, Nat.reduceAdd, Nat.reduceMul, Nat.reduceSub, ↓reduceIte, Int.reduceEq, Int.reduceNe, Nat.reduceLeDiff, one, Value.cells, Int.reduceLE, Int.reduceLT, Int.reduceToNat, add_mk, reduceCtorEq, List.mem_range'_1, true_and, and_true, and_false, false_and, Nat.reduceLT, Nat.reduceLeDiff, tyF]
  refine call_ok Tryz.call154 (slab_new w1 j h.2) ?_
  rintro _ w2 ⟨hm2, sb, sp, m, rfl, hmj, hsb, hsp, _, hS2, hQ2⟩
  obtain rfl : m = j := by omega
  simp (config := {maxSteps := 1000000, implicitDefEqProofs := false}) only [↓zvN, zvU, ↓up_apply, ↓hv_apply, ↓upO_some, ↓upO_none, ↓ev_tmp, ↓ev_const, ↓ev_func, ↓ev_global, init, Nat.reduceEqDiff, Nat.reduceAdd, Nat.reduceMul, Nat.reduceSub, ↓reduceIte, Int.reduceEq, Int.reduceNe, Nat.reduceLeDiff, one, Value.cells, Int.reduceLE, Int.reduceLT, Int.reduceToNat, add_mk, reduceCtorEq, List.mem_range'_1, true_and, and_true, and_false, false_and, Nat.reduceLT, Nat.reduceLeDiff, tyF]
  refine mk_slice Tryz.underlying22 int64E (by omega) (by simp only [maxLen]; omega) ?_
  have hm3 := more_alloc w2 (.cells (madeCells (Value.int .i64 0).cells (k * 1)) 2)
  have hb3 := Blk.new w2 2 (madeCells (Value.int .i64 0).cells (k * 1))
  obtain ⟨w3, hw3⟩ : ∃ w3, w2.alloc (.cells (madeCells (Value.int .i64 0).cells (k * 1)) 2) = w3 := ⟨_, rfl⟩
  rw [hw3] at hm3 hb3 ⊢
  clear hw3
  rw [made_ints] at hb3
  have s1 := hm1.size
  have s2 := hm2.size
  obtain ⟨y, hy⟩ : ∃ y, w2.heap.size = y := ⟨_, rfl⟩
  rw [hy] at hb3 s2 ⊢
  have b1 := build_of (P := Tryz.prog) (T := 235) (parts := #[(0, .pointer (some ⟨sp, 0, none⟩)), (1, .pointer (some ⟨cp, 0, none⟩)), (2, .slice (some ⟨y, 0, none⟩) k k)]) [.pointer (some ⟨sp, 0, none⟩), .pointer (some ⟨cp, 0, none⟩), .slice (some ⟨y, 0, none⟩) k k] (by kernel_rfl) zer235 (by kernel_rfl) w3
  simp (config := {maxSteps := 1000000, implicitDefEqProofs := false}) only [↓zvN, zvU, ↓up_apply, ↓hv_apply, ↓upO_some, ↓upO_none, ↓ev_tmp, ↓ev_const, ↓ev_func, ↓ev_global, init, Nat.reduceEqDiff, Nat.reduceAdd, Nat.reduceMul, Nat.reduceSub, ↓reduceIte, Int.reduceEq, Int.reduceNe, Nat.reduceLeDiff, one, Value.cells, Int.reduceLE, Int.reduceLT, Int.reduceToNat, add_mk, reduceCtorEq, List.mem_range'_1, true_and, and_true, and_false, false_and, Nat.reduceLT, Nat.reduceLeDiff, tyF, b1]
  have hm4 := more_alloc w3 (.cells #[.pointer (some ⟨sp, 0, none⟩), .pointer (some ⟨cp, 0, none⟩), .slice (some ⟨y, 0, none⟩) k k] 235)
  have s3 := hm3.size
  exact ⟨((hm1.trans hm2).trans hm3).trans hm4, w3.heap.size, sb, sp, cb, cc, cp, y, k, m, rfl, rfl, rfl, Blk.new _ _ _, hb3.more hm4, (hQ2.more hm3).more hm4, (hS2.more hm3).more hm4, ((hP1.more hm2).more hm3).more hm4, ((hB1.more hm2).more hm3).more hm4, ((hC1.more hm2).more hm3).more hm4, by omega⟩
end Go.Proofs.YtahcaplhdgphcaaGreat
