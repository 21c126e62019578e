/-
  Layer 12: the prefix of a flow, here and in the reference.
-/
import Derived.Test.YtahcaplhdgphcaaGreatFlow
namespace Go.Proofs.YtahcaplhdgphcaaGreat
open Go Go.RowKit Go.Proofs.RV
set_option linter.unusedSimpArgs false
set_option linter.unusedVariables false
set_option maxRecDepth 10000
set_option maxHeartbeats 4000000

def prefM (f : FlowM) : PrefM := ⟨f.v6, if f.v6 = true then f.src.take 7 else f.src.take 3 ++ noBytes 4⟩
theorem prefM_len {f : FlowM} (h : f.Fit) : (prefM f).addr.length = 7 := by
  unfold prefM
  cases f.v6 <;> simp [h.src, noBytes]
theorem prefFields (f : Field) (h : f ∈ (#[{ name := "V6", type := 4, offset := 0, embedded := false, tag := "", pkgPath := "", byteOffset := 0 }, { name := "Addr", type := 43, offset := 1, embedded := false, tag := "", pkgPath := "", byteOffset := 1 }] : Array Field)) : Tryz.prog.cellsOf f.type ≠ 0 := by
  simp only [List.mem_toArray, List.mem_cons, List.not_mem_nil, or_false] at h
  rcases h with rfl | rfl <;> simp [cells43, cells4]
theorem pref_build (b : Bool) (w0 : World) (K : Value → Prop) : pureP Tryz.prog (Instr.build 45 #[(0, .bool b)]) K = K (.agg (PrefM.cells ⟨b, noBytes 7⟩).toArray) :=
  build_eq (out := PrefM.cells ⟨b, noBytes 7⟩) Tryz.underlying45 zerPref prefFields (by
    simp only [laid, List.getElem?_toArray, List.getElem?_cons_zero, List.getElem?_cons_succ, Option.map_some, Option.bind_some, cells43, cells4]
    rfl) w0 K
def prefK (f : FlowM) (k : Nat) : PrefM := ⟨f.v6, if f.v6 = true then f.src.take k ++ noBytes (7 - k) else f.src.take (min k 3) ++ noBytes (7 - min k 3)⟩
theorem prefK_len {f : FlowM} (h : f.Fit) {k : Nat} (hk : k ≤ 7) : (prefK f k).addr.length = 7 := by
  unfold prefK
  cases f.v6 <;> simp [h.src, noBytes] <;> omega
theorem prefK_all {f : FlowM} : prefK f 7 = prefM f := by
  unfold prefK prefM
  cases f.v6 <;> simp [noBytes]
theorem PrefM.cells_len {p : PrefM} (h : p.addr.length = 7) : p.cells.length = 8 := by simp [PrefM.cells, h]
theorem pref_put {b : Bool} {x : List UInt8} {n : Nat} (hn : n ≤ 7) (hx : n ≤ x.length) : splice (PrefM.cells ⟨b, noBytes 7⟩) 1 ((x.take n).map byteV) = PrefM.cells ⟨b, x.take n ++ noBytes (7 - n)⟩ := by
  have h1 : (x.take n).length = n := by simp; omega
  rw [splice_eq _ _ _ (by simp [PrefM.cells, noBytes]; omega)]
  have h2 : (PrefM.cells ⟨b, noBytes 7⟩).drop (1 + ((x.take n).map byteV).length) = (noBytes (7 - n)).map byteV := by
    rw [List.length_map, h1]
    match n, hn with
    | 0, _ | 1, _ | 2, _ | 3, _ | 4, _ | 5, _ | 6, _ | 7, _ => rfl
  rw [h2]
  simp [PrefM.cells]
theorem frame_prefix (w : World) (f : FlowM) (hf : f.Fit) :
    Ret Tryz.prog 61 #[.agg f.cells.toArray] w fun v w' => v = .agg (prefM f).cells.toArray ∧ More w w' := by
  refine ret_of Tryz.func61 rfl (by kernel_rfl) (Nat.le_of_ble_eq_true (by kernel_rfl)) ?_
  have hm1 := more_alloc w (.cells f.cells.toArray 81)
  have hb1 := Blk.new w 81 f.cells.toArray
  have s1 := size_alloc w (.cells f.cells.toArray 81)
  simp (config := {maxSteps := 1000000, implicitDefEqProofs := false}) only [↓zvD, zvU, ↓up_apply, ↓hv_apply, ↓upO_some, ↓upO_none, ↓ev_tmp, ↓ev_const, ↓ev_func, ↓ev_global, init, Nat.reduceEqDiff, Nat.reduceAdd, Nat.reduceMul, Nat.reduceSub, ↓reduceIte, Int.reduceEq, Int.reduceNe, Nat.reduceLeDiff, one, Value.cells, Int.reduceLE, Int.reduceLT, Int.reduceToNat, add_mk, reduceCtorEq, List.mem_range'_1, true_and, and_true, and_false, false_and, Nat.reduceLT, Nat.reduceLeDiff, tyF, zerPref]
  generalize w.alloc (.cells f.cells.toArray 81) = w1 at hm1 hb1 s1 ⊢
  have hm2 := more_alloc w1 (.cells prefZ.cells.toArray 45)
  have hb2 := Blk.new w1 45 prefZ.cells.toArray
  have s2 := size_alloc w1 (.cells prefZ.cells.toArray 45)
  generalize w1.alloc (.cells prefZ.cells.toArray 45) = w2 at hm2 hb2 s2 ⊢
  simp only [List.toList_toArray] at hb1 hb2
  have hb12 := hb1.more hm2
  simp (config := {maxSteps := 1000000, implicitDefEqProofs := false}) only [↓zvD, zvU, ↓up_apply, ↓hv_apply, ↓upO_some, ↓upO_none, ↓ev_tmp, ↓ev_const, ↓ev_func, ↓ev_global, init, Nat.reduceEqDiff, Nat.reduceAdd, Nat.reduceMul, Nat.reduceSub, ↓reduceIte, Int.reduceEq, Int.reduceNe, Nat.reduceLeDiff, one, Value.cells, Int.reduceLE, Int.reduceLT, Int.reduceToNat, add_mk, reduceCtorEq, List.mem_range'_1, true_and, and_true, and_false, false_and, Nat.reduceLT, Nat.reduceLeDiff, tyF, zerPref, hb12.cell, FlowM.c0, pref_build _ w]
  have hm3 := more_alloc w2 (.cells prefZ.cells.toArray 45)
  have hb3 := Blk.new w2 45 prefZ.cells.toArray
  have s3 := size_alloc w2 (.cells prefZ.cells.toArray 45)
  generalize w2.alloc (.cells prefZ.cells.toArray 45) = w3 at hm3 hb3 s3 ⊢
  simp only [List.toList_toArray] at hb3
  refine st_all hb3 (by simp [PrefM.cells, noBytes, prefZ]) rfl (by simpa using PrefM.one _) fun w4 k1 k2 => ?_
  have hm4 : More w2 w4 := k1.below hm3 (by omega)
  have hb14 := hb12.more hm4
  have hb24 := hb2.more hm4
  have hm14 : More w w4 := (hm1.trans hm2).trans hm4
  have hsrc := blk_bs (x := f.src.take 16) (i := 2) hb14 (by rw [show (f.src.take 16).length = 16 by simp [hf.src], FlowM.cSrc hf, List.take_of_length_le (by simp [hf.src])])
  rw [List.take_of_length_le (by simp [hf.src])] at hsrc
  simp (config := {maxSteps := 1000000, implicitDefEqProofs := false}) only [↓zvD, zvU, ↓up_apply, ↓hv_apply, ↓upO_some, ↓upO_none, ↓ev_tmp, ↓ev_const, ↓ev_func, ↓ev_global, init, Nat.reduceEqDiff, Nat.reduceAdd, Nat.reduceMul, Nat.reduceSub, ↓reduceIte, Int.reduceEq, Int.reduceNe, Nat.reduceLeDiff, one, Value.cells, Int.reduceLE, Int.reduceLT, Int.reduceToNat, add_mk, reduceCtorEq, List.mem_range'_1, true_and, and_true, and_false, false_and, Nat.reduceLT, Nat.reduceLeDiff, tyF, hb14.cell, FlowM.c0]
  refine ⟨fun h6 => ?_, fun h6 => ?_⟩
  · simp (config := {maxSteps := 1000000, implicitDefEqProofs := false}) only [↓zvD, zvU, ↓up_apply, ↓hv_apply, ↓upO_some, ↓upO_none, ↓ev_tmp, ↓ev_const, ↓ev_func, ↓ev_global, init, Nat.reduceEqDiff, Nat.reduceAdd, Nat.reduceMul, Nat.reduceSub, ↓reduceIte, Int.reduceEq, Int.reduceNe, Nat.reduceLeDiff, one, Value.cells, Int.reduceLE, Int.reduceLT, Int.reduceToNat, add_mk, reduceCtorEq, List.mem_range'_1, true_and, and_true, and_false, false_and, Nat.reduceLT, Nat.reduceLeDiff, tyF]
    refine draw_seen 6 [[], [], [0, 1], [], [], [3, 4], [0, 1, 2, 3, 4, 5]] (RV.look []) mixed (by kernel_rfl) (by kernel_rfl) (look_keeps _ (by simp)) ?_
    simp (config := {maxSteps := 1000000, implicitDefEqProofs := false}) only [↓zvD, zvU, ↓zqD, ↓up_apply, ↓hv_apply, ↓upO_some, ↓upO_none, ↓ev_tmp, ↓ev_const, ↓ev_func, ↓ev_global, init, Nat.reduceEqDiff, Nat.reduceAdd, Nat.reduceMul, Nat.reduceSub, ↓reduceIte, Int.reduceEq, Int.reduceNe, Nat.reduceLeDiff, one, Value.cells, Int.reduceLE, Int.reduceLT, Int.reduceToNat, add_mk, reduceCtorEq, List.mem_range'_1, true_and, and_true, and_false, false_and, Nat.reduceLT, Nat.reduceLeDiff, tyF]
    intro w5 hm5
    have hn : ((f.src.take 7).map byteV).length = 7 := by simp [hf.src]
    refine copy_blk (news := (f.src.take 7).map byteV) Tryz.underlying40 cells5 (k2.more hm5) (by rw [List.take_of_length_le (by simp [hf.src])]; exact Cs.takeB (hsrc.more hm5) 7) hn (byteV_one _) (by simp [PrefM.cells, noBytes]) fun w6 k3 k4 => ?_
    rw [List.take_of_length_le (by omega), List.toList_toArray, pref_put (by omega) (by rw [hf.src]; omega)] at k4
    have hm6 : More w w6 := k3.below (hm14.trans hm5) (by omega)
    have hb26 := k3.blk (hb24.more hm5) (by omega)
    have hfin : PrefM.mk f.v6 (f.src.take 7 ++ noBytes (7 - 7)) = prefM f := by simp [prefM, h6, noBytes]
    rw [hfin] at k4
    have r6 := k4.all_eq 8 (PrefM.cells_len (prefM_len hf))
    simp (config := {maxSteps := 1000000, implicitDefEqProofs := false}) only [↓zvD, zvU, ↓up_apply, ↓hv_apply, ↓upO_some, ↓upO_none, ↓ev_tmp, ↓ev_const, ↓ev_func, ↓ev_global, init, Nat.reduceEqDiff, Nat.reduceAdd, Nat.reduceMul, Nat.reduceSub, ↓reduceIte, Int.reduceEq, Int.reduceNe, Nat.reduceLeDiff, one, Value.cells, Int.reduceLE, Int.reduceLT, Int.reduceToNat, add_mk, reduceCtorEq, List.mem_range'_1, true_and, and_true, and_false, false_and, Nat.reduceLT, Nat.reduceLeDiff, tyF, r6]
    refine st_all hb26 (by simpa using PrefM.cells_len (prefM_len hf)) rfl (by simpa using PrefM.one _) fun w7 k5 k6 => ?_
    have r7 := k6.all_eq 8 (by simpa using PrefM.cells_len (prefM_len hf))
    simp (config := {maxSteps := 1000000, implicitDefEqProofs := false}) only [↓zvD, zvU, ↓up_apply, ↓hv_apply, ↓upO_some, ↓upO_none, ↓ev_tmp, ↓ev_const, ↓ev_func, ↓ev_global, init, Nat.reduceEqDiff, Nat.reduceAdd, Nat.reduceMul, Nat.reduceSub, ↓reduceIte, Int.reduceEq, Int.reduceNe, Nat.reduceLeDiff, one, Value.cells, Int.reduceLE, Int.reduceLT, Int.reduceToNat, add_mk, reduceCtorEq, List.mem_range'_1, true_and, and_true, and_false, false_and, Nat.reduceLT, Nat.reduceLeDiff, tyF, r7]
    exact k5.below hm6 (by omega)
  · simp (config := {maxSteps := 1000000, implicitDefEqProofs := false}) only [↓zvD, zvU, ↓up_apply, ↓hv_apply, ↓upO_some, ↓upO_none, ↓ev_tmp, ↓ev_const, ↓ev_func, ↓ev_global, init, Nat.reduceEqDiff, Nat.reduceAdd, Nat.reduceMul, Nat.reduceSub, ↓reduceIte, Int.reduceEq, Int.reduceNe, Nat.reduceLeDiff, one, Value.cells, Int.reduceLE, Int.reduceLT, Int.reduceToNat, add_mk, reduceCtorEq, List.mem_range'_1, true_and, and_true, and_false, false_and, Nat.reduceLT, Nat.reduceLeDiff, tyF]
    refine draw_seen 6 [[], [], [0, 1], [], [], [3, 4], [0, 1, 2, 3, 4, 5]] (RV.look []) mixed (by kernel_rfl) (by kernel_rfl) (look_keeps _ (by simp)) ?_
    simp (config := {maxSteps := 1000000, implicitDefEqProofs := false}) only [↓zvD, zvU, ↓zqD, ↓up_apply, ↓hv_apply, ↓upO_some, ↓upO_none, ↓ev_tmp, ↓ev_const, ↓ev_func, ↓ev_global, init, Nat.reduceEqDiff, Nat.reduceAdd, Nat.reduceMul, Nat.reduceSub, ↓reduceIte, Int.reduceEq, Int.reduceNe, Nat.reduceLeDiff, one, Value.cells, Int.reduceLE, Int.reduceLT, Int.reduceToNat, add_mk, reduceCtorEq, List.mem_range'_1, true_and, and_true, and_false, false_and, Nat.reduceLT, Nat.reduceLeDiff, tyF]
    intro w5 hm5
    have hn : ((f.src.take 3).map byteV).length = 3 := by simp [hf.src]
    refine copy_blk (news := (f.src.take 3).map byteV) Tryz.underlying40 cells5 (k2.more hm5) (by rw [List.take_of_length_le (by simp [hf.src])]; exact Cs.takeB (hsrc.more hm5) 3) hn (byteV_one _) (by simp [PrefM.cells, noBytes]) fun w6 k3 k4 => ?_
    rw [List.take_of_length_le (by omega), List.toList_toArray, pref_put (by omega) (by rw [hf.src]; omega)] at k4
    have hm6 : More w w6 := k3.below (hm14.trans hm5) (by omega)
    have hb26 := k3.blk (hb24.more hm5) (by omega)
    have hfin : PrefM.mk f.v6 (f.src.take 3 ++ noBytes (7 - 3)) = prefM f := by simp [prefM, h6, noBytes]
    rw [hfin] at k4
    have r6 := k4.all_eq 8 (PrefM.cells_len (prefM_len hf))
    simp (config := {maxSteps := 1000000, implicitDefEqProofs := false}) only [↓zvD, zvU, ↓up_apply, ↓hv_apply, ↓upO_some, ↓upO_none, ↓ev_tmp, ↓ev_const, ↓ev_func, ↓ev_global, init, Nat.reduceEqDiff, Nat.reduceAdd, Nat.reduceMul, Nat.reduceSub, ↓reduceIte, Int.reduceEq, Int.reduceNe, Nat.reduceLeDiff, one, Value.cells, Int.reduceLE, Int.reduceLT, Int.reduceToNat, add_mk, reduceCtorEq, List.mem_range'_1, true_and, and_true, and_false, false_and, Nat.reduceLT, Nat.reduceLeDiff, tyF, r6]
    refine st_all hb26 (by simpa using PrefM.cells_len (prefM_len hf)) rfl (by simpa using PrefM.one _) fun w7 k5 k6 => ?_
    have r7 := k6.all_eq 8 (by simpa using PrefM.cells_len (prefM_len hf))
    simp (config := {maxSteps := 1000000, implicitDefEqProofs := false}) only [↓zvD, zvU, ↓up_apply, ↓hv_apply, ↓upO_some, ↓upO_none, ↓ev_tmp, ↓ev_const, ↓ev_func, ↓ev_global, init, Nat.reduceEqDiff, Nat.reduceAdd, Nat.reduceMul, Nat.reduceSub, ↓reduceIte, Int.reduceEq, Int.reduceNe, Nat.reduceLeDiff, one, Value.cells, Int.reduceLE, Int.reduceLT, Int.reduceToNat, add_mk, reduceCtorEq, List.mem_range'_1, true_and, and_true, and_false, false_and, Nat.reduceLT, Nat.reduceLeDiff, tyF, r7]
    exact k5.below hm6 (by omega)
theorem prefK_step {f : FlowM} (hf : f.Fit) {k : Nat} (hk : k < 7) : (prefK f (k + 1)).cells = if k < 3 ∨ f.v6 = true then (prefK f k).cells.set (1 + k) (.int .u8 (bt f.src k)) else (prefK f k).cells := by
  have hs := hf.src
  unfold prefK PrefM.cells
  generalize f.src = s at hs ⊢
  match s, hs with
  | [a0, a1, a2, a3, a4, a5, a6, a7, a8, a9, a10, a11, a12, a13, a14, a15], _ =>
    cases f.v6 <;> match k, hk with
    | 0, _ | 1, _ | 2, _ | 3, _ | 4, _ | 5, _ | 6, _ => rfl
def RefPJ (f : FlowM) (w : World) (p q : Nat) (v8 : Value) (w' : World) : Prop :=
  ∃ k : Nat, v8 = .int .i64 k ∧ k ≤ 7 ∧ Blk w' w.heap.size 81 f.cells ∧ Blk w' p 45 prefZ.cells ∧ Blk w' q 45 (prefK f k).cells ∧ More w w'
end Go.Proofs.YtahcaplhdgphcaaGreat
