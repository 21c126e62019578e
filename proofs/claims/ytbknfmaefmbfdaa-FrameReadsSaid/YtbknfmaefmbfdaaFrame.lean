/-
  Layer 12: the prefix of a flow, here and in the reference.
-/
import Derived.Test.YtbknfmaefmbfdaaFlow
namespace Go.Proofs.Ytbknfmaefmbfdaa
open Go Go.RowKit Go.Proofs.RV
set_option linter.unusedSimpArgs false
set_option linter.unusedVariables false
set_option maxRecDepth 10000
set_option maxHeartbeats 4000000

def prefM (f : FlowM) : PrefM := ⟨f.v6, if f.v6 = true then f.src.take 7 else f.src.take 3 ++ noBytes 4⟩
theorem prefM_len {f : FlowM} (h : f.Fit) : (prefM f).addr.length = 7 := by
  unfold prefM
  cases f.v6 <;> simp [h.src, noBytes]
theorem prefFields (f : Field) (h : f ∈ (#[{ name := "V6", type := 4, offset := 0, embedded := false, tag := "", pkgPath := "", byteOffset := 0 }, { name := "Addr", type := 72, offset := 1, embedded := false, tag := "", pkgPath := "", byteOffset := 1 }] : Array Field)) : Try.prog.cellsOf f.type ≠ 0 := by
  simp only [List.mem_toArray, List.mem_cons, List.not_mem_nil, or_false] at h
  rcases h with rfl | rfl <;> simp [cells72, cells4]
theorem pref_build (b : Bool) (w0 : World) (K : Value → Prop) : pureP Try.prog (Instr.build 74 #[(0, .bool b)]) K = K (.agg (PrefM.cells ⟨b, noBytes 7⟩).toArray) :=
  build_eq (out := PrefM.cells ⟨b, noBytes 7⟩) Try.underlying74 zerPref prefFields (by
    simp only [laid, List.getElem?_toArray, List.getElem?_cons_zero, List.getElem?_cons_succ, Option.map_some, Option.bind_some, cells72, cells4]
    rfl) w0 K
def prefK (f : FlowM) (k : Nat) : PrefM := ⟨f.v6, if f.v6 = true then f.src.take k ++ noBytes (7 - k) else f.src.take (min k 3) ++ noBytes (7 - min k 3)⟩
theorem prefK_len {f : FlowM} (h : f.Fit) {k : Nat} (hk : k ≤ 7) : (prefK f k).addr.length = 7 := by
  unfold prefK
  cases f.v6 <;> simp [h.src, noBytes] <;> omega
theorem prefK_all {f : FlowM} : prefK f 7 = prefM f := by
  unfold prefK prefM
  cases f.v6 <;> simp [noBytes]
theorem PrefM.cells_len {p : PrefM} (h : p.addr.length = 7) : p.cells.length = 8 := by simp [PrefM.cells, h]
theorem pref_put {b : Bool} {x : List UInt8} {n : Nat} (hn : n ≤ 7) (hx : n ≤ x.length) : splice (PrefM.cells ⟨b, noBytes 7⟩) 1 ((x.take n).map byteV) = PrefM.cells ⟨b, x.take n ++ noBytes (7 - n)⟩ := by
  have h1 : (x.take n).length = n := by simp; omega
  rw [splice_eq _ _ _ (by simp [PrefM.cells, noBytes]; omega)]
  have h2 : (PrefM.cells ⟨b, noBytes 7⟩).drop (1 + ((x.take n).map byteV).length) = (noBytes (7 - n)).map byteV := by
    rw [List.length_map, h1]
    match n, hn with
    | 0, _ | 1, _ | 2, _ | 3, _ | 4, _ | 5, _ | 6, _ | 7, _ => rfl
  rw [h2]
  simp [PrefM.cells]
theorem frame_prefix (w : World) (f : FlowM) (hf : f.Fit) :
    Ret Try.prog 41 #[.agg f.cells.toArray] w fun v w' => v = .agg (prefM f).cells.toArray ∧ More w w' := by
  refine ret_of Try.func41 rfl (by kernel_rfl) (Nat.le_of_ble_eq_true (by kernel_rfl)) ?_
  have hm1 := more_alloc w (.cells f.cells.toArray 71)
  have hb1 := Blk.new w 71 f.cells.toArray
  have s1 := size_alloc w (.cells f.cells.toArray 71)
  simp (config := {maxSteps := 1000000}) only [↓zvD, zvU, ↓up_apply, ↓hv_apply, ↓upO_some, ↓upO_none, ↓ev_tmp, ↓ev_const, ↓ev_func, ↓ev_global, init, Nat.reduceEqDiff, Nat.reduceAdd, Nat.reduceMul, Nat.reduceSub, ↓reduceIte, Int.reduceEq, Int.reduceNe, Nat.reduceLeDiff, one, Value.cells, Int.reduceLE, Int.reduceLT, Int.reduceToNat, add_mk, reduceCtorEq, tyF, zerPref]
  generalize w.alloc (.cells f.cells.toArray 71) = w1 at hm1 hb1 s1 ⊢
  have hm2 := more_alloc w1 (.cells prefZ.cells.toArray 74)
  have hb2 := Blk.new w1 74 prefZ.cells.toArray
  have s2 := size_alloc w1 (.cells prefZ.cells.toArray 74)
  generalize w1.alloc (.cells prefZ.cells.toArray 74) = w2 at hm2 hb2 s2 ⊢
  simp only [List.toList_toArray] at hb1 hb2
  have hb12 := hb1.more hm2
  simp (config := {maxSteps := 1000000}) only [↓zvD, zvU, ↓up_apply, ↓hv_apply, ↓upO_some, ↓upO_none, ↓ev_tmp, ↓ev_const, ↓ev_func, ↓ev_global, init, Nat.reduceEqDiff, Nat.reduceAdd, Nat.reduceMul, Nat.reduceSub, ↓reduceIte, Int.reduceEq, Int.reduceNe, Nat.reduceLeDiff, one, Value.cells, Int.reduceLE, Int.reduceLT, Int.reduceToNat, add_mk, reduceCtorEq, tyF, zerPref, hb12.cell, FlowM.c0, pref_build _ w]
  have hm3 := more_alloc w2 (.cells prefZ.cells.toArray 74)
  have hb3 := Blk.new w2 74 prefZ.cells.toArray
  have s3 := size_alloc w2 (.cells prefZ.cells.toArray 74)
  generalize w2.alloc (.cells prefZ.cells.toArray 74) = w3 at hm3 hb3 s3 ⊢
  simp only [List.toList_toArray] at hb3
  refine st_all hb3 (by simp [PrefM.cells, noBytes, prefZ]) rfl (by simpa using PrefM.one _) fun w4 k1 k2 => ?_
  have hm4 : More w2 w4 := k1.below hm3 (by omega)
  have hb14 := hb12.more hm4
  have hb24 := hb2.more hm4
  have hm14 : More w w4 := (hm1.trans hm2).trans hm4
  have hsrc := blk_bs (x := f.src.take 16) (i := 2) hb14 (by rw [show (f.src.take 16).length = 16 by simp [hf.src], FlowM.cSrc hf, List.take_of_length_le (by simp [hf.src])])
  rw [List.take_of_length_le (by simp [hf.src])] at hsrc
  simp (config := {maxSteps := 1000000}) only [↓zvD, zvU, ↓up_apply, ↓hv_apply, ↓upO_some, ↓upO_none, ↓ev_tmp, ↓ev_const, ↓ev_func, ↓ev_global, init, Nat.reduceEqDiff, Nat.reduceAdd, Nat.reduceMul, Nat.reduceSub, ↓reduceIte, Int.reduceEq, Int.reduceNe, Nat.reduceLeDiff, one, Value.cells, Int.reduceLE, Int.reduceLT, Int.reduceToNat, add_mk, reduceCtorEq, tyF, hb14.cell, FlowM.c0]
  refine ⟨fun h6 => ?_, fun h6 => ?_⟩
  · simp (config := {maxSteps := 1000000}) only [↓zvD, zvU, ↓up_apply, ↓hv_apply, ↓upO_some, ↓upO_none, ↓ev_tmp, ↓ev_const, ↓ev_func, ↓ev_global, init, Nat.reduceEqDiff, Nat.reduceAdd, Nat.reduceMul, Nat.reduceSub, ↓reduceIte, Int.reduceEq, Int.reduceNe, Nat.reduceLeDiff, one, Value.cells, Int.reduceLE, Int.reduceLT, Int.reduceToNat, add_mk, reduceCtorEq, tyF]
    refine draw_seen 6 [[], [], [0, 1], [], [], [3, 4], [0, 1, 2, 3, 4, 5]] (RV.look []) mixed (by kernel_rfl) (by kernel_rfl) (look_keeps _ (by simp)) ?_
    simp (config := {maxSteps := 1000000}) only [↓zvD, zvU, ↓zqD, ↓up_apply, ↓hv_apply, ↓upO_some, ↓upO_none, ↓ev_tmp, ↓ev_const, ↓ev_func, ↓ev_global, init, Nat.reduceEqDiff, Nat.reduceAdd, Nat.reduceMul, Nat.reduceSub, ↓reduceIte, Int.reduceEq, Int.reduceNe, Nat.reduceLeDiff, one, Value.cells, Int.reduceLE, Int.reduceLT, Int.reduceToNat, add_mk, reduceCtorEq, tyF]
    intro w5 hm5
    have hn : ((f.src.take 7).map byteV).length = 7 := by simp [hf.src]
    refine copy_blk (news := (f.src.take 7).map byteV) Try.underlying31 cells5 (k2.more hm5) (by rw [List.take_of_length_le (by simp [hf.src])]; exact Cs.takeB (hsrc.more hm5) 7) hn (byteV_one _) (by simp [PrefM.cells, noBytes]) fun w6 k3 k4 => ?_
    rw [List.take_of_length_le (by omega), List.toList_toArray, pref_put (by omega) (by rw [hf.src]; omega)] at k4
    have hm6 : More w w6 := k3.below (hm14.trans hm5) (by omega)
    have hb26 := k3.blk (hb24.more hm5) (by omega)
    have hfin : PrefM.mk f.v6 (f.src.take 7 ++ noBytes (7 - 7)) = prefM f := by simp [prefM, h6, noBytes]
    rw [hfin] at k4
    have r6 := k4.all_eq 8 (PrefM.cells_len (prefM_len hf))
    simp (config := {maxSteps := 1000000}) only [↓zvD, zvU, ↓up_apply, ↓hv_apply, ↓upO_some, ↓upO_none, ↓ev_tmp, ↓ev_const, ↓ev_func, ↓ev_global, init, Nat.reduceEqDiff, Nat.reduceAdd, Nat.reduceMul, Nat.reduceSub, ↓reduceIte, Int.reduceEq, Int.reduceNe, Nat.reduceLeDiff, one, Value.cells, Int.reduceLE, Int.reduceLT, Int.reduceToNat, add_mk, reduceCtorEq, tyF, r6]
    refine st_all hb26 (by simpa using PrefM.cells_len (prefM_len hf)) rfl (by simpa using PrefM.one _) fun w7 k5 k6 => ?_
    have r7 := k6.all_eq 8 (by simpa using PrefM.cells_len (prefM_len hf))
    simp (config := {maxSteps := 1000000}) only [↓zvD, zvU, ↓up_apply, ↓hv_apply, ↓upO_some, ↓upO_none, ↓ev_tmp, ↓ev_const, ↓ev_func, ↓ev_global, init, Nat.reduceEqDiff, Nat.reduceAdd, Nat.reduceMul, Nat.reduceSub, ↓reduceIte, Int.reduceEq, Int.reduceNe, Nat.reduceLeDiff, one, Value.cells, Int.reduceLE, Int.reduceLT, Int.reduceToNat, add_mk, reduceCtorEq, tyF, r7]
    exact k5.below hm6 (by omega)
  · simp (config := {maxSteps := 1000000}) only [↓zvD, zvU, ↓up_apply, ↓hv_apply, ↓upO_some, ↓upO_none, ↓ev_tmp, ↓ev_const, ↓ev_func, ↓ev_global, init, Nat.reduceEqDiff, Nat.reduceAdd, Nat.reduceMul, Nat.reduceSub, ↓reduceIte, Int.reduceEq, Int.reduceNe, Nat.reduceLeDiff, one, Value.cells, Int.reduceLE, Int.reduceLT, Int.reduceToNat, add_mk, reduceCtorEq, tyF]
    refine draw_seen 6 [[], [], [0, 1], [], [], [3, 4], [0, 1, 2, 3, 4, 5]] (RV.look []) mixed (by kernel_rfl) (by kernel_rfl) (look_keeps _ (by simp)) ?_
    simp (config := {maxSteps := 1000000}) only [↓zvD, zvU, ↓zqD, ↓up_apply, ↓hv_apply, ↓upO_some, ↓upO_none, ↓ev_tmp, ↓ev_const, ↓ev_func, ↓ev_global, init, Nat.reduceEqDiff, Nat.reduceAdd, Nat.reduceMul, Nat.reduceSub, ↓reduceIte, Int.reduceEq, Int.reduceNe, Nat.reduceLeDiff, one, Value.cells, Int.reduceLE, Int.reduceLT, Int.reduceToNat, add_mk, reduceCtorEq, tyF]
    intro w5 hm5
    have hn : ((f.src.take 3).map byteV).length = 3 := by simp [hf.src]
    refine copy_blk (news := (f.src.take 3).map byteV) Try.underlying31 cells5 (k2.more hm5) (by rw [List.take_of_length_le (by simp [hf.src])]; exact Cs.takeB (hsrc.more hm5) 3) hn (byteV_one _) (by simp [PrefM.cells, noBytes]) fun w6 k3 k4 => ?_
    rw [List.take_of_length_le (by omega), List.toList_toArray, pref_put (by omega) (by rw [hf.src]; omega)] at k4
    have hm6 : More w w6 := k3.below (hm14.trans hm5) (by omega)
    have hb26 := k3.blk (hb24.more hm5) (by omega)
    have hfin : PrefM.mk f.v6 (f.src.take 3 ++ noBytes (7 - 3)) = prefM f := by simp [prefM, h6, noBytes]
    rw [hfin] at k4
    have r6 := k4.all_eq 8 (PrefM.cells_len (prefM_len hf))
    simp (config := {maxSteps := 1000000}) only [↓zvD, zvU, ↓up_apply, ↓hv_apply, ↓upO_some, ↓upO_none, ↓ev_tmp, ↓ev_const, ↓ev_func, ↓ev_global, init, Nat.reduceEqDiff, Nat.reduceAdd, Nat.reduceMul, Nat.reduceSub, ↓reduceIte, Int.reduceEq, Int.reduceNe, Nat.reduceLeDiff, one, Value.cells, Int.reduceLE, Int.reduceLT, Int.reduceToNat, add_mk, reduceCtorEq, tyF, r6]
    refine st_all hb26 (by simpa using PrefM.cells_len (prefM_len hf)) rfl (by simpa using PrefM.one _) fun w7 k5 k6 => ?_
    have r7 := k6.all_eq 8 (by simpa using PrefM.cells_len (prefM_len hf))
    simp (config := {maxSteps := 1000000}) only [↓zvD, zvU, ↓up_apply, ↓hv_apply, ↓upO_some, ↓upO_none, ↓ev_tmp, ↓ev_const, ↓ev_func, ↓ev_global, init, Nat.reduceEqDiff, Nat.reduceAdd, Nat.reduceMul, Nat.reduceSub, ↓reduceIte, Int.reduceEq, Int.reduceNe, Nat.reduceLeDiff, one, Value.cells, Int.reduceLE, Int.reduceLT, Int.reduceToNat, add_mk, reduceCtorEq, tyF, r7]
    exact k5.below hm6 (by omega)
theorem prefK_step {f : FlowM} (hf : f.Fit) {k : Nat} (hk : k < 7) : (prefK f (k + 1)).cells = if k < 3 ∨ f.v6 = true then (prefK f k).cells.set (1 + k) (.int .u8 (bt f.src k)) else (prefK f k).cells := by
  have hs := hf.src
  unfold prefK PrefM.cells
  generalize f.src = s at hs ⊢
  match s, hs with
  | [a0, a1, a2, a3, a4, a5, a6, a7, a8, a9, a10, a11, a12, a13, a14, a15], _ =>
    cases f.v6 <;> match k, hk with
    | 0, _ | 1, _ | 2, _ | 3, _ | 4, _ | 5, _ | 6, _ => rfl
def RefPJ (f : FlowM) (w : World) (p q : Nat) (v8 : Value) (w' : World) : Prop :=
  ∃ k : Nat, v8 = .int .i64 k ∧ k ≤ 7 ∧ Blk w' w.heap.size 71 f.cells ∧ Blk w' p 74 prefZ.cells ∧ Blk w' q 74 (prefK f k).cells ∧ More w w'
theorem ref_prefix (w : World) (f : FlowM) (hf : f.Fit) :
    Ret Try.prog 42 #[.agg f.cells.toArray] w fun v w' => v = .agg (prefM f).cells.toArray ∧ More w w' := by
  refine ret_of Try.func42 rfl (by kernel_rfl) (Nat.le_of_ble_eq_true (by kernel_rfl)) ?_
  have hm1 := more_alloc w (.cells f.cells.toArray 71)
  have hb1 := Blk.new w 71 f.cells.toArray
  have s1 := size_alloc w (.cells f.cells.toArray 71)
  simp (config := {maxSteps := 1000000}) only [↓zvD, zvU, ↓up_apply, ↓hv_apply, ↓upO_some, ↓upO_none, ↓ev_tmp, ↓ev_const, ↓ev_func, ↓ev_global, init, Nat.reduceEqDiff, Nat.reduceAdd, Nat.reduceMul, Nat.reduceSub, ↓reduceIte, Int.reduceEq, Int.reduceNe, Nat.reduceLeDiff, one, Value.cells, Int.reduceLE, Int.reduceLT, Int.reduceToNat, add_mk, reduceCtorEq, tyF, zerPref]
  generalize w.alloc (.cells f.cells.toArray 71) = w1 at hm1 hb1 s1 ⊢
  have hm2 := more_alloc w1 (.cells prefZ.cells.toArray 74)
  have hb2 := Blk.new w1 74 prefZ.cells.toArray
  have s2 := size_alloc w1 (.cells prefZ.cells.toArray 74)
  generalize w1.alloc (.cells prefZ.cells.toArray 74) = w2 at hm2 hb2 s2 ⊢
  simp only [List.toList_toArray] at hb1 hb2
  have hb12 := hb1.more hm2
  simp (config := {maxSteps := 1000000}) only [↓zvD, zvU, ↓up_apply, ↓hv_apply, ↓upO_some, ↓upO_none, ↓ev_tmp, ↓ev_const, ↓ev_func, ↓ev_global, init, Nat.reduceEqDiff, Nat.reduceAdd, Nat.reduceMul, Nat.reduceSub, ↓reduceIte, Int.reduceEq, Int.reduceNe, Nat.reduceLeDiff, one, Value.cells, Int.reduceLE, Int.reduceLT, Int.reduceToNat, add_mk, reduceCtorEq, tyF, zerPref, hb12.cell, FlowM.c0, pref_build _ w]
  have hm3 := more_alloc w2 (.cells prefZ.cells.toArray 74)
  have hb3 := Blk.new w2 74 prefZ.cells.toArray
  have s3 := size_alloc w2 (.cells prefZ.cells.toArray 74)
  generalize w2.alloc (.cells prefZ.cells.toArray 74) = w3 at hm3 hb3 s3 ⊢
  simp only [List.toList_toArray] at hb3
  refine st_all hb3 (by simp [PrefM.cells, noBytes, prefZ]) rfl (by simpa using PrefM.one _) fun w4 k1 k2 => ?_
  have hm4 : More w2 w4 := k1.below hm3 (by omega)
  have hp0 : PrefM.mk f.v6 (noBytes 7) = prefK f 0 := by cases hv : f.v6 <;> simp [prefK, hv, noBytes]
  rw [List.toList_toArray, hp0] at k2
  refine loop_p [8, 4, 9, 10, 11, 12, 13, 14, 15, 16, 17, 18, 19, 20, 21, 22, 23, 24] (fun e w' => RefPJ f w w1.heap.size w2.heap.size (e 8) w') (fun e _ => 7 - (numOf (e 8)).toNat) ?_ ?_
  · exact ⟨0, by simp only [hv_apply, up_apply, upO_some, upO_none, init, List.mem_cons, true_or, or_true, if_true, if_false, ↓reduceIte, Nat.reduceEqDiff, false_or, or_false, List.not_mem_nil, List.getElem?_cons_zero, List.getElem?_cons_succ, Option.getD_some]; rfl, by omega, hb12.more hm4, hb2.more hm4, k2, (hm1.trans hm2).trans hm4⟩
  rintro v w5 ⟨k, h8, hk, hbf, hbz, hbp, hm5⟩
  simp only [hv_apply, up_apply, upO_some, upO_none, init, List.mem_cons, true_or, or_true, if_true, if_false, ↓reduceIte, Nat.reduceEqDiff, false_or, or_false, List.not_mem_nil, List.getElem?_cons_zero, List.getElem?_cons_succ, Option.getD_some] at h8
  have ek : IntKind.i64.wrap ((k : Int) + 1) = ((k + 1 : Nat) : Int) := w64 (by omega) (by omega)
  simp (config := {maxSteps := 1000000}) only [↓zvD, zvU, ↓up_apply, ↓hv_apply, ↓upO_some, ↓upO_none, ↓ev_tmp, ↓ev_const, ↓ev_func, ↓ev_global, init, Nat.reduceEqDiff, Nat.reduceAdd, Nat.reduceMul, Nat.reduceSub, ↓reduceIte, Int.reduceEq, Int.reduceNe, Nat.reduceLeDiff, one, Value.cells, Int.reduceLE, Int.reduceLT, Int.reduceToNat, add_mk, reduceCtorEq, tyF, h8]
  refine ⟨fun h9 => ?_, fun h9 => ?_⟩
  · have hk7 : k < 7 := by omega
    have hc0 := hbf.cell
    have hck := FlowM.srcAt hf (k := k) (by omega)
    have hst := prefK_step hf hk7
    have g0 : (0 : Int) ≤ (k : Int) := by omega
    have g1 : (k : Int) < 16 := by omega
    rcases Nat.lt_or_ge k 3 with h3 | h3
    · have gk : (k : Int) < 3 := by omega
      have gk3 : ¬ (3 : Int) ≤ (k : Int) := by omega
      rw [if_pos (by first | exact .inl h3 | exact .inr h3)] at hst
      simp (config := {maxSteps := 1000000}) only [↓zvD, zvU, ↓up_apply, ↓hv_apply, ↓upO_some, ↓upO_none, ↓ev_tmp, ↓ev_const, ↓ev_func, ↓ev_global, init, Nat.reduceEqDiff, Nat.reduceAdd, Nat.reduceMul, Nat.reduceSub, ↓reduceIte, Int.reduceEq, Int.reduceNe, Nat.reduceLeDiff, one, Value.cells, Int.reduceLE, Int.reduceLT, Int.reduceToNat, add_mk, reduceCtorEq, tyF, h8, hc0, FlowM.c0, g0, g1, gk, gk3, gk, hck, Int.toNat_natCast]
      refine ⟨h9, ?_⟩
      refine st_cell (i := 1 + k) (v := .int .u8 (bt f.src k)) hbp (by rw [PrefM.cells_len (prefK_len hf hk)]; omega) rfl fun w6 k4 k5 => ?_
      rw [← hst] at k5
      rw [ek]
      refine ⟨⟨?_, k + 1, rfl, by omega, k4.blk hbf (by omega), k4.blk hbz (by omega), k5, k4.below hm5 (by omega)⟩, by simp only [numOf]; omega⟩
      repeat (first | exact Same.hv _ _ _ | refine Same.up (by simp) ?_)
    · have gk : ¬ (k : Int) < 3 := by omega
      have gk3 : (3 : Int) ≤ (k : Int) := by omega
      by_cases hv : f.v6 = true
      · rw [if_pos (by first | exact .inl hv | exact .inr hv)] at hst
        simp (config := {maxSteps := 1000000}) only [↓zvD, zvU, ↓up_apply, ↓hv_apply, ↓upO_some, ↓upO_none, ↓ev_tmp, ↓ev_const, ↓ev_func, ↓ev_global, init, Nat.reduceEqDiff, Nat.reduceAdd, Nat.reduceMul, Nat.reduceSub, ↓reduceIte, Int.reduceEq, Int.reduceNe, Nat.reduceLeDiff, one, Value.cells, Int.reduceLE, Int.reduceLT, Int.reduceToNat, add_mk, reduceCtorEq, tyF, h8, hc0, FlowM.c0, g0, g1, gk, gk3, hv, hck, Int.toNat_natCast]
        refine ⟨h9, ?_⟩
        refine st_cell (i := 1 + k) (v := .int .u8 (bt f.src k)) hbp (by rw [PrefM.cells_len (prefK_len hf hk)]; omega) rfl fun w6 k4 k5 => ?_
        rw [← hst] at k5
        rw [ek]
        refine ⟨⟨?_, k + 1, rfl, by omega, k4.blk hbf (by omega), k4.blk hbz (by omega), k5, k4.below hm5 (by omega)⟩, by simp only [numOf]; omega⟩
        repeat (first | exact Same.hv _ _ _ | refine Same.up (by simp) ?_)
      · rw [if_neg (fun hh => hh.elim (fun hh => by omega) hv)] at hst
        rw [← hst] at hbp
        simp (config := {maxSteps := 1000000}) only [↓zvD, zvU, ↓up_apply, ↓hv_apply, ↓upO_some, ↓upO_none, ↓ev_tmp, ↓ev_const, ↓ev_func, ↓ev_global, init, Nat.reduceEqDiff, Nat.reduceAdd, Nat.reduceMul, Nat.reduceSub, ↓reduceIte, Int.reduceEq, Int.reduceNe, Nat.reduceLeDiff, one, Value.cells, Int.reduceLE, Int.reduceLT, Int.reduceToNat, add_mk, reduceCtorEq, tyF, h8, hc0, FlowM.c0, gk, gk3, hv, ek]
        refine ⟨⟨?_, k + 1, rfl, by omega, hbf, hbz, hbp, hm5⟩, by simp only [numOf]; omega⟩
        repeat (first | exact Same.hv _ _ _ | refine Same.up (by simp) ?_)
  · obtain rfl : k = 7 := by omega
    rw [prefK_all] at hbp
    have r6 := hbp.all_eq 8 (PrefM.cells_len (prefM_len hf))
    simp (config := {maxSteps := 1000000}) only [↓zvD, zvU, ↓up_apply, ↓hv_apply, ↓upO_some, ↓upO_none, ↓ev_tmp, ↓ev_const, ↓ev_func, ↓ev_global, init, Nat.reduceEqDiff, Nat.reduceAdd, Nat.reduceMul, Nat.reduceSub, ↓reduceIte, Int.reduceEq, Int.reduceNe, Nat.reduceLeDiff, one, Value.cells, Int.reduceLE, Int.reduceLT, Int.reduceToNat, add_mk, reduceCtorEq, tyF, h8, r6]
    refine st_all hbz (by simpa using PrefM.cells_len (prefM_len hf)) rfl (by simpa using PrefM.one _) fun w7 k5 k6 => ?_
    have r7 := k6.all_eq 8 (by simpa using PrefM.cells_len (prefM_len hf))
    simp (config := {maxSteps := 1000000}) only [↓zvD, zvU, ↓up_apply, ↓hv_apply, ↓upO_some, ↓upO_none, ↓ev_tmp, ↓ev_const, ↓ev_func, ↓ev_global, init, Nat.reduceEqDiff, Nat.reduceAdd, Nat.reduceMul, Nat.reduceSub, ↓reduceIte, Int.reduceEq, Int.reduceNe, Nat.reduceLeDiff, one, Value.cells, Int.reduceLE, Int.reduceLT, Int.reduceToNat, add_mk, reduceCtorEq, tyF, r7]
    exact k5.below hm5 (by omega)
end Go.Proofs.Ytbknfmaefmbfdaa
