/-
  Layer 30: the guard.
-/
import Derived.Test.YtahcaplhdgphcaaGreatEng
import Derived.Test.YtahcaplhdgphcaaGreatFrameP
namespace Go.Proofs.YtahcaplhdgphcaaGreat
open Go Go.RowKit Go.Proofs.RV
set_option linter.unusedSimpArgs false
set_option linter.unusedVariables false
set_option maxRecDepth 10000
set_option maxHeartbeats 4000000
def littleC : List Int := [1, 2, 1, 1, 0, 0, 1, 1, 9216, 1000, 0, 2, 1000, 0, 0, 1, 1099511627776, 1, 0, 1]
theorem little_right : rightM littleC := by
  intro k hk
  have : k = 0 ∨ k = 1 ∨ k = 2 ∨ k = 3 ∨ k = 4 ∨ k = 5 ∨ k = 6 ∨ k = 7 ∨ k = 8 ∨ k = 9 ∨ k = 10 ∨ k = 11 ∨ k = 12 ∨ k = 13 ∨ k = 14 ∨ k = 15 ∨ k = 16 ∨ k = 17 ∨ k = 18 ∨ k = 19 := by omega
  rcases this with rfl | rfl | rfl | rfl | rfl | rfl | rfl | rfl | rfl | rfl | rfl | rfl | rfl | rfl | rfl | rfl | rfl | rfl | rfl | rfl <;> decide
theorem little30 (w : World) : Ret Tryz.prog 8 #[] w fun v w' => v = .agg (ints littleC).toArray ∧ More w w' := by
  refine ret_of Tryz.func8 rfl (by kernel_rfl) (Nat.le_of_ble_eq_true (by kernel_rfl)) ?_
  have hm1 := more_alloc w (.cells (ints (List.replicate 20 0)).toArray 29)
  have hb1 := Blk.new w 29 (ints (List.replicate 20 0)).toArray
  simp (config := {maxSteps := 1000000, implicitDefEqProofs := false}) only [↓zvN, zvU, ↓up_apply, ↓hv_apply, ↓upO_some, ↓upO_none, ↓ev_tmp, ↓ev_const, ↓ev_func, ↓ev_global, init, Nat.reduceEqDiff, Nat.reduceAdd, Nat.reduceMul, Nat.reduceSub, ↓reduceIte, Int.reduceEq, Int.reduceNe, Nat.reduceLeDiff, one, Value.cells, Int.reduceLE, Int.reduceLT, Int.reduceToNat, add_mk, reduceCtorEq, List.mem_range'_1, true_and, and_true, and_false, false_and, Nat.reduceLT, Nat.reduceLeDiff, tyF, zerCfg]
  obtain ⟨w1, hw1⟩ : ∃ w1, w.alloc (.cells (ints (List.replicate 20 0)).toArray 29) = w1 := ⟨_, rfl⟩
  rw [hw1] at hm1 hb1 ⊢
  clear hw1
  have b1 := build_of (P := Tryz.prog) (T := 29) (parts := #[(0, .int .i64 1), (1, .int .i64 2), (2, .int .i64 1), (3, .int .i64 1), (6, .int .i64 1), (7, .int .i64 1), (8, .int .i64 9216), (9, .int .i64 1000), (11, .int .i64 2), (12, .int .i64 1000), (15, .int .i64 1), (16, .int .i64 1099511627776), (17, .int .i64 1), (19, .int .i64 1)]) (ints littleC) (by kernel_rfl) zerCfg (by kernel_rfl) w1
  rw [b1]
  simp (config := {maxSteps := 1000000, implicitDefEqProofs := false}) only [↓zvN, zvU, ↓up_apply, ↓hv_apply, ↓upO_some, ↓upO_none, ↓ev_tmp, ↓ev_const, ↓ev_func, ↓ev_global, init, Nat.reduceEqDiff, Nat.reduceAdd, Nat.reduceMul, Nat.reduceSub, ↓reduceIte, Int.reduceEq, Int.reduceNe, Nat.reduceLeDiff, one, Value.cells, Int.reduceLE, Int.reduceLT, Int.reduceToNat, add_mk, reduceCtorEq, List.mem_range'_1, true_and, and_true, and_false, false_and, Nat.reduceLT, Nat.reduceLeDiff, tyF]
  refine st_all hb1 rfl rfl (by simpa using ints_one littleC) fun w2 k1 k2 => ?_
  rw [s2_undef]
  rw [List.toList_toArray] at k2
  have l4 := k2.all_eq 20 rfl
  simp (config := {maxSteps := 1000000, implicitDefEqProofs := false}) only [↓zvN, zvU, ↓up_apply, ↓hv_apply, ↓upO_some, ↓upO_none, ↓ev_tmp, ↓ev_const, ↓ev_func, ↓ev_global, init, Nat.reduceEqDiff, Nat.reduceAdd, Nat.reduceMul, Nat.reduceSub, ↓reduceIte, Int.reduceEq, Int.reduceNe, Nat.reduceLeDiff, one, Value.cells, Int.reduceLE, Int.reduceLT, Int.reduceToNat, add_mk, reduceCtorEq, List.mem_range'_1, true_and, and_true, and_false, false_and, Nat.reduceLT, Nat.reduceLeDiff, tyF, l4]
  exact k1.below hm1 (Nat.le_refl _)
theorem zerKey16 : zer Tryz.prog 31 = some (.agg ((noBytes 16).map byteV).toArray) := by rw [zer31]; rfl
/-- what becomes of a frame: seq, reason, class, victim, boxed, box full -/
def verCells (a b c d : Int) (x y : Bool) : List Value := [.int .i64 a, .int .i64 b, .int .i64 c, .int .i64 d, .bool x, .bool y]
theorem zerVer : zer Tryz.prog 54 = some (.agg (verCells 0 0 0 0 false false).toArray) := by rw [zer54]; rfl
theorem why_nil : frameWhy [] = 1 := by decide
theorem eng_frame_nil (w : World) (e s p : Nat) (now : Int) (st : List Int) (d : List Value) (hd : d.length = 2) (hd1 : ∀ u ∈ d, u.oneCell' = true) (hs : st.length = 31) (hb : Blk w e 75 (engCells s p now st)) (h : Still w p) :
    Ret Tryz.prog 13 #[.pointer (some ⟨e, 0, none⟩), .slice none 0 0, .agg d.toArray] w fun v w' => v = .agg (verCells (-1) 1 (-1) (-1) false false).toArray ∧ Blk w' e 75 (engCells s p now (bump (bump (bump st 0 1) 1 1) 16 1)) ∧ But e w w' := by
  refine ret_of Tryz.func13 rfl (by kernel_rfl) (Nat.le_of_ble_eq_true (by kernel_rfl)) ?_
  simp (config := {maxSteps := 1000000, implicitDefEqProofs := false}) only [↓zvN, zvU, ↓up_apply, ↓hv_apply, ↓upO_some, ↓upO_none, ↓ev_tmp, ↓ev_const, ↓ev_func, ↓ev_global, init, Nat.reduceEqDiff, Nat.reduceAdd, Nat.reduceMul, Nat.reduceSub, ↓reduceIte, Int.reduceEq, Int.reduceNe, Nat.reduceLeDiff, one, Value.cells, Int.reduceLE, Int.reduceLT, Int.reduceToNat, add_mk, reduceCtorEq, List.mem_range'_1, true_and, and_true, and_false, false_and, Nat.reduceLT, Nat.reduceLeDiff, tyF, zerVer]
  have hm1 := more_alloc w (.cells d.toArray 42)
  obtain ⟨w1, hw1⟩ : ∃ w1, w.alloc (.cells d.toArray 42) = w1 := ⟨_, rfl⟩
  have hw1' := hw1
  rw [hw1] at hm1 ⊢
  clear hw1
  have hm2 := more_alloc w1 (.cells (verCells 0 0 0 0 false false).toArray 54)
  have hV2 := Blk.new w1 54 (verCells 0 0 0 0 false false).toArray
  obtain ⟨w2, hw2⟩ : ∃ w2, w1.alloc (.cells (verCells 0 0 0 0 false false).toArray 54) = w2 := ⟨_, rfl⟩
  rw [hw2] at hm2 hV2 ⊢
  clear hw2
  rw [List.toList_toArray] at hV2
  obtain ⟨y, hy⟩ : ∃ y, w1.heap.size = y := ⟨_, rfl⟩
  rw [← hw1'] at hy
  have hy' := hy
  rw [hw1'] at hy
  clear hw1'
  rw [hy] at hV2
  have hwy : w.heap.size ≤ y := by have := hm1.size; omega
  have hel := hb.lt
  have hm02 := hm1.trans hm2
  have hb2 := hb.more hm02
  have h2 := h.more hm02
  refine call_ok Tryz.call26 (ahead_still w2 e s p now st hb2 h2) ?_
  rintro _ w3 ⟨rfl, rfl⟩
  simp (config := {maxSteps := 1000000, implicitDefEqProofs := false}) only [↓zvN, zvU, ↓up_apply, ↓hv_apply, ↓upO_some, ↓upO_none, ↓ev_tmp, ↓ev_const, ↓ev_func, ↓ev_global, init, Nat.reduceEqDiff, Nat.reduceAdd, Nat.reduceMul, Nat.reduceSub, ↓reduceIte, Int.reduceEq, Int.reduceNe, Nat.reduceLeDiff, one, Value.cells, Int.reduceLE, Int.reduceLT, Int.reduceToNat, add_mk, reduceCtorEq, List.mem_range'_1, true_and, and_true, and_false, false_and, Nat.reduceLT, Nat.reduceLeDiff, tyF]
  refine call_ok Tryz.call28 (stats_addE w3 e s p now st 0 1 hs (by decide) hb2) ?_
  rintro _ w4 ⟨rfl, hb4, hm4⟩
  simp (config := {maxSteps := 1000000, implicitDefEqProofs := false}) only [↓zvN, zvU, ↓up_apply, ↓hv_apply, ↓upO_some, ↓upO_none, ↓ev_tmp, ↓ev_const, ↓ev_func, ↓ev_global, init, Nat.reduceEqDiff, Nat.reduceAdd, Nat.reduceMul, Nat.reduceSub, ↓reduceIte, Int.reduceEq, Int.reduceNe, Nat.reduceLeDiff, one, Value.cells, Int.reduceLE, Int.reduceLT, Int.reduceToNat, add_mk, reduceCtorEq, List.mem_range'_1, true_and, and_true, and_false, false_and, Nat.reduceLT, Nat.reduceLeDiff, tyF]
  refine call_ok Tryz.call29 (frame_parse w4 none [] 0 (Cs.nil _ _) (Nat.le_refl _) (by decide)) ?_
  rintro _ w5 ⟨rfl, hm5⟩
  have hz : frameM [] = packZ := by unfold frameM; rw [if_neg (by rw [why_nil]; decide)]
  rw [hz, why_nil]
  simp (config := {maxSteps := 1000000, implicitDefEqProofs := false}) only [↓zvN, zvU, ↓up_apply, ↓hv_apply, ↓upO_some, ↓upO_none, ↓ev_tmp, ↓ev_const, ↓ev_func, ↓ev_global, init, Nat.reduceEqDiff, Nat.reduceAdd, Nat.reduceMul, Nat.reduceSub, ↓reduceIte, Int.reduceEq, Int.reduceNe, Nat.reduceLeDiff, one, Value.cells, Int.reduceLE, Int.reduceLT, Int.reduceToNat, add_mk, reduceCtorEq, List.mem_range'_1, true_and, and_true, and_false, false_and, Nat.reduceLT, Nat.reduceLeDiff, tyF, zerPack]
  refine pack_var flowZ_fit rfl fun w6 hm6 _ _ => ?_
  rw [s2_undef]
  have hb6 := (hb4.more hm5).more hm6
  have hs1 : (bump st 0 1).length = 31 := by rw [bump_len, hs]
  have hs2 : (bump (bump st 0 1) 1 1).length = 31 := by rw [bump_len, hs1]
  simp (config := {maxSteps := 1000000, implicitDefEqProofs := false}) only [↓zvN, zvU, ↓up_apply, ↓hv_apply, ↓upO_some, ↓upO_none, ↓ev_tmp, ↓ev_const, ↓ev_func, ↓ev_global, init, Nat.reduceEqDiff, Nat.reduceAdd, Nat.reduceMul, Nat.reduceSub, ↓reduceIte, Int.reduceEq, Int.reduceNe, Nat.reduceLeDiff, one, Value.cells, Int.reduceLE, Int.reduceLT, Int.reduceToNat, add_mk, reduceCtorEq, List.mem_range'_1, true_and, and_true, and_false, false_and, Nat.reduceLT, Nat.reduceLeDiff, tyF]
  refine call_ok Tryz.call28 (stats_addE w6 e s p now _ 1 1 hs1 (by decide) hb6) ?_
  rintro _ w7 ⟨rfl, hb7, hm7⟩
  simp (config := {maxSteps := 1000000, implicitDefEqProofs := false}) only [↓zvN, zvU, ↓up_apply, ↓hv_apply, ↓upO_some, ↓upO_none, ↓ev_tmp, ↓ev_const, ↓ev_func, ↓ev_global, init, Nat.reduceEqDiff, Nat.reduceAdd, Nat.reduceMul, Nat.reduceSub, ↓reduceIte, Int.reduceEq, Int.reduceNe, Nat.reduceLeDiff, one, Value.cells, Int.reduceLE, Int.reduceLT, Int.reduceToNat, add_mk, reduceCtorEq, List.mem_range'_1, true_and, and_true, and_false, false_and, Nat.reduceLT, Nat.reduceLeDiff, tyF]
  refine call_ok Tryz.call30 (stats_becE w7 e s p now _ 1 1 hs2 (by decide) hb7) ?_
  rintro _ w8 ⟨rfl, hb8, hm8⟩
  have b1 := build_of (P := Tryz.prog) (T := 54) (parts := #[(0, .int .i64 (-1)), (1, .int .i64 1), (2, .int .i64 (-1)), (3, .int .i64 (-1))]) (verCells (-1) 1 (-1) (-1) false false) (by kernel_rfl) zerVer (by kernel_rfl) w8
  simp (config := {maxSteps := 1000000, implicitDefEqProofs := false}) only [↓zvN, zvU, ↓up_apply, ↓hv_apply, ↓upO_some, ↓upO_none, ↓ev_tmp, ↓ev_const, ↓ev_func, ↓ev_global, init, Nat.reduceEqDiff, Nat.reduceAdd, Nat.reduceMul, Nat.reduceSub, ↓reduceIte, Int.reduceEq, Int.reduceNe, Nat.reduceLeDiff, one, Value.cells, Int.reduceLE, Int.reduceLT, Int.reduceToNat, add_mk, reduceCtorEq, List.mem_range'_1, true_and, and_true, and_false, false_and, Nat.reduceLT, Nat.reduceLeDiff, tyF, b1]
  rw [hy]
  have f08 : But e w3 w8 := ((hm4.trans (But.of_more (hm5.trans hm6))).trans hm7).trans hm8
  have hel3 : e ≠ y := by omega
  refine st_all (f08.blk hV2 (fun h => hel3 h.symm)) rfl rfl (by intro u hu; simp [verCells] at hu; rcases hu with rfl | rfl | rfl | rfl | rfl | rfl <;> rfl) fun w9 k1 k2 => ?_
  rw [s2_undef]
  rw [List.toList_toArray] at k2
  have l9 := k2.all_eq 6 rfl
  simp (config := {maxSteps := 1000000, implicitDefEqProofs := false}) only [↓zvN, zvU, ↓up_apply, ↓hv_apply, ↓upO_some, ↓upO_none, ↓ev_tmp, ↓ev_const, ↓ev_func, ↓ev_global, init, Nat.reduceEqDiff, Nat.reduceAdd, Nat.reduceMul, Nat.reduceSub, ↓reduceIte, Int.reduceEq, Int.reduceNe, Nat.reduceLeDiff, one, Value.cells, Int.reduceLE, Int.reduceLT, Int.reduceToNat, add_mk, reduceCtorEq, List.mem_range'_1, true_and, and_true, and_false, false_and, Nat.reduceLT, Nat.reduceLeDiff, tyF, l9]
  have hf : But e w w8 := (But.of_more hm02).trans f08
  exact ⟨k1.blk hb8 hel3, hf.next (Mod.of_wr (S := fun q => q = y) k1 rfl) (fun k hk hk2 => by omega)⟩
theorem zerDraws : zer Tryz.prog 42 = some (.agg [Value.int .u64 0, .int .u64 0].toArray) := by rw [zer42]
theorem key0_build (w0 : World) (K : Value → Prop) : pureP Tryz.prog (Instr.build 31 #[]) K = K (.agg ((noBytes 16).map byteV).toArray) :=
  build_arrE (s := 1) Tryz.underlying31 cells5 (by decide) zerKey16 rfl w0 K
theorem awake30 (w : World) : Ret Tryz.prog 6 #[] w fun v w' => v = .bool true ∧ More w w' := by
  refine ret_of Tryz.func6 rfl (by kernel_rfl) (Nat.le_of_ble_eq_true (by kernel_rfl)) ?_
  simp (config := {maxSteps := 1000000, implicitDefEqProofs := false}) only [↓zvN, zvU, ↓up_apply, ↓hv_apply, ↓upO_some, ↓upO_none, ↓ev_tmp, ↓ev_const, ↓ev_func, ↓ev_global, init, Nat.reduceEqDiff, Nat.reduceAdd, Nat.reduceMul, Nat.reduceSub, ↓reduceIte, Int.reduceEq, Int.reduceNe, Nat.reduceLeDiff, one, Value.cells, Int.reduceLE, Int.reduceLT, Int.reduceToNat, add_mk, reduceCtorEq, List.mem_range'_1, true_and, and_true, and_false, false_and, Nat.reduceLT, Nat.reduceLeDiff, tyF]
  refine call_ok Tryz.call8 (little30 w) ?_
  rintro _ w1 ⟨rfl, hm1⟩
  simp (config := {maxSteps := 1000000, implicitDefEqProofs := false}) only [↓zvN, zvU, ↓up_apply, ↓hv_apply, ↓upO_some, ↓upO_none, ↓ev_tmp, ↓ev_const, ↓ev_func, ↓ev_global, init, Nat.reduceEqDiff, Nat.reduceAdd, Nat.reduceMul, Nat.reduceSub, ↓reduceIte, Int.reduceEq, Int.reduceNe, Nat.reduceLeDiff, one, Value.cells, Int.reduceLE, Int.reduceLT, Int.reduceToNat, add_mk, reduceCtorEq, List.mem_range'_1, true_and, and_true, and_false, false_and, Nat.reduceLT, Nat.reduceLeDiff, tyF]
  have bk := key0_build w1
  rw [bk]
  simp (config := {maxSteps := 1000000, implicitDefEqProofs := false}) only [↓zvN, zvU, ↓up_apply, ↓hv_apply, ↓upO_some, ↓upO_none, ↓ev_tmp, ↓ev_const, ↓ev_func, ↓ev_global, init, Nat.reduceEqDiff, Nat.reduceAdd, Nat.reduceMul, Nat.reduceSub, ↓reduceIte, Int.reduceEq, Int.reduceNe, Nat.reduceLeDiff, one, Value.cells, Int.reduceLE, Int.reduceLT, Int.reduceToNat, add_mk, reduceCtorEq, List.mem_range'_1, true_and, and_true, and_false, false_and, Nat.reduceLT, Nat.reduceLeDiff, tyF]
  refine call_ok Tryz.call7 (engine_new w1 littleC (noBytes 16) rfl rfl little_right) ?_
  rintro _ w2 ⟨hm2, e, s, p, q, rfl, hE⟩
  have hb2 := hE.eng
  have hst := hE.pol.still rfl rfl
  have bd := build_arrE (s := 1) (parts := #[]) (out := [Value.int .u64 0, .int .u64 0]) Tryz.underlying42 cells41 (by decide) zerDraws rfl w2
  simp (config := {maxSteps := 1000000, implicitDefEqProofs := false}) only [↓zvN, zvU, ↓up_apply, ↓hv_apply, ↓upO_some, ↓upO_none, ↓ev_tmp, ↓ev_const, ↓ev_func, ↓ev_global, init, Nat.reduceEqDiff, Nat.reduceAdd, Nat.reduceMul, Nat.reduceSub, ↓reduceIte, Int.reduceEq, Int.reduceNe, Nat.reduceLeDiff, one, Value.cells, Int.reduceLE, Int.reduceLT, Int.reduceToNat, add_mk, reduceCtorEq, List.mem_range'_1, true_and, and_true, and_false, false_and, Nat.reduceLT, Nat.reduceLeDiff, tyF, bd]
  refine call_ok Tryz.call13 (eng_frame_nil w2 e s p 0 _ [Value.int .u64 0, .int .u64 0] rfl (by intro u hu; simp at hu; subst hu; rfl) rfl hb2 hst) ?_
  rintro _ w3 ⟨rfl, hb3, hm3⟩
  have hm13 : More w w3 := Mod.more (hm1.trans hm2) hm3 (fun k hk h => by have := hE.ge; have := hm1.size; omega)
  have hst3 := hst.keep hm3 hb2 (by decide) (by decide)
  simp (config := {maxSteps := 1000000, implicitDefEqProofs := false}) only [↓zvN, zvU, ↓up_apply, ↓hv_apply, ↓upO_some, ↓upO_none, ↓ev_tmp, ↓ev_const, ↓ev_func, ↓ev_global, init, Nat.reduceEqDiff, Nat.reduceAdd, Nat.reduceMul, Nat.reduceSub, ↓reduceIte, Int.reduceEq, Int.reduceNe, Nat.reduceLeDiff, one, Value.cells, Int.reduceLE, Int.reduceLT, Int.reduceToNat, add_mk, reduceCtorEq, List.mem_range'_1, true_and, and_true, and_false, false_and, Nat.reduceLT, Nat.reduceLeDiff, tyF, zerVer]
  have hm4 := more_alloc w3 (.cells (verCells 0 0 0 0 false false).toArray 54)
  have hV4 := Blk.new w3 54 (verCells 0 0 0 0 false false).toArray
  obtain ⟨w4, hw4⟩ : ∃ w4, w3.alloc (.cells (verCells 0 0 0 0 false false).toArray 54) = w4 := ⟨_, rfl⟩
  rw [hw4] at hm4 hV4 ⊢
  clear hw4
  obtain ⟨y, hy⟩ : ∃ y, w3.heap.size = y := ⟨_, rfl⟩
  rw [hy] at hV4 ⊢
  have hel := hb3.lt
  refine st_all hV4 rfl rfl (by intro u hu; simp [verCells] at hu; rcases hu with rfl | rfl | rfl | rfl | rfl | rfl <;> rfl) fun w5 k1 k2 => ?_
  rw [s2_undef]
  rw [List.toList_toArray] at k2
  have hb5 := k1.blk (hb3.more hm4) (by omega)
  have hm15 : More w w5 := k1.below (hm13.trans hm4) (by have := hm13.size; omega)
  have v0 : w5.cell? ⟨y, 0, none⟩ = some (.int .i64 (-1)) := by rw [k2.cell]; rfl
  have v1 : w5.cell? ⟨y, 1, none⟩ = some (.int .i64 1) := by rw [k2.cell]; rfl
  simp (config := {maxSteps := 1000000, implicitDefEqProofs := false}) only [↓zvN, zvU, ↓up_apply, ↓hv_apply, ↓upO_some, ↓upO_none, ↓ev_tmp, ↓ev_const, ↓ev_func, ↓ev_global, init, Nat.reduceEqDiff, Nat.reduceAdd, Nat.reduceMul, Nat.reduceSub, ↓reduceIte, Int.reduceEq, Int.reduceNe, Nat.reduceLeDiff, one, Value.cells, Int.reduceLE, Int.reduceLT, Int.reduceToNat, add_mk, reduceCtorEq, List.mem_range'_1, true_and, and_true, and_false, false_and, Nat.reduceLT, Nat.reduceLeDiff, tyF, v0, v1]
  refine call_ok Tryz.call11 (eng_stats w5 e s p 0 _ rfl hb5) ?_
  rintro _ w6 ⟨rfl, hm6⟩
  have f0 := stats_N (st := bump (bump (bump (List.replicate 31 0) 0 1) 1 1) 16 1) rfl w6
  have f1 := statsN_at (l := (bump (bump (bump (List.replicate 31 0) 0 1) 1 1) 16 1).take 15) rfl 1 (by decide) w6
  have f2 : ((bump (bump (bump (List.replicate 31 0) 0 1) 1 1) 16 1).take 15).getD 1 0 = 1 := by decide
  rw [f2] at f1
  simp (config := {maxSteps := 1000000, implicitDefEqProofs := false}) only [↓zvN, zvU, ↓up_apply, ↓hv_apply, ↓upO_some, ↓upO_none, ↓ev_tmp, ↓ev_const, ↓ev_func, ↓ev_global, init, Nat.reduceEqDiff, Nat.reduceAdd, Nat.reduceMul, Nat.reduceSub, ↓reduceIte, Int.reduceEq, Int.reduceNe, Nat.reduceLeDiff, one, Value.cells, Int.reduceLE, Int.reduceLT, Int.reduceToNat, add_mk, reduceCtorEq, List.mem_range'_1, true_and, and_true, and_false, false_and, Nat.reduceLT, Nat.reduceLeDiff, tyF]
  rw [f0]
  simp (config := {maxSteps := 1000000, implicitDefEqProofs := false}) only [↓zvN, zvU, ↓up_apply, ↓hv_apply, ↓upO_some, ↓upO_none, ↓ev_tmp, ↓ev_const, ↓ev_func, ↓ev_global, init, Nat.reduceEqDiff, Nat.reduceAdd, Nat.reduceMul, Nat.reduceSub, ↓reduceIte, Int.reduceEq, Int.reduceNe, Nat.reduceLeDiff, one, Value.cells, Int.reduceLE, Int.reduceLT, Int.reduceToNat, add_mk, reduceCtorEq, List.mem_range'_1, true_and, and_true, and_false, false_and, Nat.reduceLT, Nat.reduceLeDiff, tyF]
  refine (f1 _).mpr ?_
  simp (config := {maxSteps := 1000000, implicitDefEqProofs := false}) only [↓zvN, zvU, ↓up_apply, ↓hv_apply, ↓upO_some, ↓upO_none, ↓ev_tmp, ↓ev_const, ↓ev_func, ↓ev_global, init, Nat.reduceEqDiff, Nat.reduceAdd, Nat.reduceMul, Nat.reduceSub, ↓reduceIte, Int.reduceEq, Int.reduceNe, Nat.reduceLeDiff, one, Value.cells, Int.reduceLE, Int.reduceLT, Int.reduceToNat, add_mk, reduceCtorEq, List.mem_range'_1, true_and, and_true, and_false, false_and, Nat.reduceLT, Nat.reduceLeDiff, tyF]
  exact hm15.trans hm6
end Go.Proofs.YtahcaplhdgphcaaGreat
