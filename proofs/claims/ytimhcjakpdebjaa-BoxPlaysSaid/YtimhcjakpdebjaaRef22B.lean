/-
  Layer 22: what the document's box turns: Drop, Put, Take, All.
-/
import Derived.Test.YtimhcjakpdebjaaRef22
import Derived.Test.YtimhcjakpdebjaaLine
namespace Go.Proofs.Ytimhcjakpdebjaa
open Go Go.RowKit Go.Proofs.RV
set_option linter.unusedSimpArgs false
set_option linter.unusedVariables false
set_option maxRecDepth 10000
set_option maxHeartbeats 4000000
theorem del_cutB {α : Type} {l : List (PrefM × α)} (hn : (keysM l).Nodup) {p : PrefM} {i : Nat} {e : PrefM × α} (he : l[i]? = some e) (hp : e.1 = p) : delL l p = l.take i ++ l.drop (i + 1) := by
  have hi : i < l.length := (List.getElem?_eq_some_iff.1 he).1
  have hsplit : l = l.take i ++ e :: l.drop (i + 1) := by
    conv => lhs; rw [← List.take_append_drop i l, List.drop_eq_getElem_cons hi]
    rw [List.getElem?_eq_getElem hi] at he
    rw [Option.some.inj he]
  have hno : ∀ (j : Nat) (d : PrefM × α), l[j]? = some d → j ≠ i → d.1 ≠ p := by
    intro j d hj hne hd
    have h1 : (keysM l)[i]? = some p := by unfold keysM; rw [List.getElem?_map, he]; simp [hp]
    have h2 : (keysM l)[j]? = some p := by unfold keysM; rw [List.getElem?_map, hj]; simp [hd]
    exact hne (((List.getElem?_inj (by unfold keysM; simpa using hi) hn).1 (h1.trans h2.symm)).symm)
  unfold delL
  conv => lhs; rw [hsplit]
  rw [List.filter_append, List.filter_cons_of_neg (by simp [hp])]
  congr 1
  · rw [List.filter_eq_self]
    intro d hd
    obtain ⟨j, hj⟩ := List.getElem?_of_mem hd
    have hjl : j < i := by have := (List.getElem?_eq_some_iff.1 hj).1; rw [List.length_take] at this; omega
    rw [List.getElem?_take, if_pos hjl] at hj
    simpa using hno j d hj (by omega)
  · rw [List.filter_eq_self]
    intro d hd
    obtain ⟨j, hj⟩ := List.getElem?_of_mem hd
    rw [List.getElem?_drop] at hj
    simpa using hno _ d hj (by omega)
theorem SortedM.sweep {L : BoxL} (h : SortedM L) (now : Int) : SortedM (sweepL now L) := by
  unfold SortedM keysM at *
  exact h.sublist ((List.filter_sublist).map _)
theorem ref_dropB (w : World) (A : Option Addr) (L : BoxL) (c : Nat) (room term rate burst : Int) (p : PrefM) (now : Int) (hp : p.addr.length = 7) (hA : Cs w A (L.flatMap (reB burst))) (hO : POk L) (hs : SortedM L) (hl : L.length ≤ 1000000) :
    Ret Try.prog 41 #[.agg (rbox A L.length c room term rate burst).toArray, .agg p.cells.toArray, .int .i64 now] w fun v w' => ∃ A' c', v = .tuple #[.agg (rbox A' (delL (sweepL now L) p).length c' room term rate burst).toArray, .bool (inB now L p)] ∧ (delL (sweepL now L) p).length ≤ c' ∧ Cs w' A' ((delL (sweepL now L) p).flatMap (reB burst)) ∧ (∀ a, A' = some a → w.heap.size ≤ a.block) ∧ More w w' := by
  refine ret_of Try.func41 rfl (by kernel_rfl) (Nat.le_of_ble_eq_true (by kernel_rfl)) ?_
  unfold inB
  have hm1 := more_alloc w (.cells (rbox A L.length c room term rate burst).toArray 77)
  have hb1 := Blk.new w 77 (rbox A L.length c room term rate burst).toArray
  have s1 := size_alloc w (.cells (rbox A L.length c room term rate burst).toArray 77)
  have hm2 := more_alloc (w.alloc (.cells (rbox A L.length c room term rate burst).toArray 77)) (.cells p.cells.toArray 24)
  have hb2 := Blk.new (w.alloc (.cells (rbox A L.length c room term rate burst).toArray 77)) 24 p.cells.toArray
  have s2 := size_alloc (w.alloc (.cells (rbox A L.length c room term rate burst).toArray 77)) (.cells p.cells.toArray 24)
  have hm3 := more_alloc ((w.alloc (.cells (rbox A L.length c room term rate burst).toArray 77)).alloc (.cells p.cells.toArray 24)) (.cells (rbox none 0 0 0 0 0 0).toArray 77)
  have hb3 := Blk.new ((w.alloc (.cells (rbox A L.length c room term rate burst).toArray 77)).alloc (.cells p.cells.toArray 24)) 77 (rbox none 0 0 0 0 0 0).toArray
  replace hb1 := hb1.more (hm2.trans hm3)
  replace hb2 := hb2.more hm3
  have hm := (hm1.trans hm2).trans hm3
  rw [s2, s1] at hb3
  rw [s1] at hb2
  rw [s1] at s2
  rw [List.toList_toArray] at hb1 hb2 hb3
  simp (config := {maxSteps := 1000000}) only [↓zvN, zvU, ↓up_apply, ↓hv_apply, ↓upO_some, ↓upO_none, ↓ev_tmp, ↓ev_const, ↓ev_func, ↓ev_global, init, Nat.reduceEqDiff, Nat.reduceAdd, Nat.reduceMul, Nat.reduceSub, ↓reduceIte, Int.reduceEq, Int.reduceNe, Nat.reduceLeDiff, one, Value.cells, Int.reduceLE, Int.reduceLT, Int.reduceToNat, add_mk, reduceCtorEq, List.mem_range'_1, true_and, and_true, and_false, false_and, Nat.reduceLT, Nat.reduceLeDiff, tyF, s1, s2, zerRB]
  obtain ⟨w1, hw1⟩ : ∃ w1, ((w.alloc (.cells (rbox A L.length c room term rate burst).toArray 77)).alloc (.cells p.cells.toArray 24)).alloc (.cells (rbox none 0 0 0 0 0 0).toArray 77) = w1 := ⟨_, rfl⟩
  rw [hw1] at hb1 hb2 hb3 hm ⊢
  have sw1 : w1.heap.size = w.heap.size + 1 + 1 + 1 := by rw [← hw1, size_alloc, s2]
  clear hw1 hm1 hm2 hm3
  have v1 := hb1.all_eq 5 rfl
  simp (config := {maxSteps := 1000000}) only [↓zvN, zvU, ↓up_apply, ↓hv_apply, ↓upO_some, ↓upO_none, ↓ev_tmp, ↓ev_const, ↓ev_func, ↓ev_global, init, Nat.reduceEqDiff, Nat.reduceAdd, Nat.reduceMul, Nat.reduceSub, ↓reduceIte, Int.reduceEq, Int.reduceNe, Nat.reduceLeDiff, one, Value.cells, Int.reduceLE, Int.reduceLT, Int.reduceToNat, add_mk, reduceCtorEq, List.mem_range'_1, true_and, and_true, and_false, false_and, Nat.reduceLT, Nat.reduceLeDiff, tyF, v1, s1, s2]
  refine call_ok Try.call38 (ref_sweep w1 A L c room term rate burst now (hA.more hm) hO hl) ?_
  rintro _ w2 ⟨A2, c2, rfl, hlc2, hA2, hge2, hm2⟩
  obtain ⟨S, hS⟩ : ∃ S, sweepL now L = S := ⟨_, rfl⟩
  have hO2 : POk S := by rw [← hS]; exact fun e he => hO e (List.mem_filter.1 he).1
  have hl2 : S.length ≤ 1000000 := by rw [← hS]; exact Nat.le_trans (sweep_len now L) hl
  rw [hS] at hlc2 hA2 ⊢
  simp (config := {maxSteps := 1000000}) only [↓zvN, zvU, ↓up_apply, ↓hv_apply, ↓upO_some, ↓upO_none, ↓ev_tmp, ↓ev_const, ↓ev_func, ↓ev_global, init, Nat.reduceEqDiff, Nat.reduceAdd, Nat.reduceMul, Nat.reduceSub, ↓reduceIte, Int.reduceEq, Int.reduceNe, Nat.reduceLeDiff, one, Value.cells, Int.reduceLE, Int.reduceLT, Int.reduceToNat, add_mk, reduceCtorEq, List.mem_range'_1, true_and, and_true, and_false, false_and, Nat.reduceLT, Nat.reduceLeDiff, tyF, s1, s2]
  refine st_all (hb1.more hm2) rfl rfl (by simpa using rbox_one A2 S.length c2 room term rate burst) fun w3 j1 j2 => ?_
  rw [s2_undef]
  rw [List.toList_toArray] at j2
  have hgeA : ∀ a, A2 = some a → w.heap.size + 3 ≤ a.block := fun a ha => by have := hge2 a ha; omega
  have hA3 := j1.cs hA2 (fun a ha => by have := hgeA a ha; omega)
  have hb23 := j1.blk (hb2.more hm2) (by omega)
  have hb33 := j1.blk (hb3.more hm2) (by omega)
  have hm13 : More w w3 := more_but (hm.trans hm2) (But.of_wr j1) (Nat.le_refl _)
  have v3 := j2.all_eq 5 rfl
  have hpl : p.cells.length = 8 := by simp [PrefM.cells, hp]
  have q3 := hb23.all_eq 8 hpl
  simp (config := {maxSteps := 1000000}) only [↓zvN, zvU, ↓up_apply, ↓hv_apply, ↓upO_some, ↓upO_none, ↓ev_tmp, ↓ev_const, ↓ev_func, ↓ev_global, init, Nat.reduceEqDiff, Nat.reduceAdd, Nat.reduceMul, Nat.reduceSub, ↓reduceIte, Int.reduceEq, Int.reduceNe, Nat.reduceLeDiff, one, Value.cells, Int.reduceLE, Int.reduceLT, Int.reduceToNat, add_mk, reduceCtorEq, List.mem_range'_1, true_and, and_true, and_false, false_and, Nat.reduceLT, Nat.reduceLeDiff, tyF, v3, q3, s1, s2]
  refine call_ok Try.call39 (ref_findB w3 A2 S c2 room term rate burst p hp hA3 hO2 hl2) ?_
  rintro _ w4 ⟨rfl, hm4⟩
  rcases idxB_spec (p := p) S 0 with ⟨hi, hk⟩ | ⟨i, hi, hil, e, he, hep⟩
  · have v4 := (j2.more hm4).all_eq 5 rfl
    rw [hi, del_none hk, decide_eq_false hk]
    simp (config := {maxSteps := 1000000}) only [↓zvN, zvU, ↓up_apply, ↓hv_apply, ↓upO_some, ↓upO_none, ↓ev_tmp, ↓ev_const, ↓ev_func, ↓ev_global, init, Nat.reduceEqDiff, Nat.reduceAdd, Nat.reduceMul, Nat.reduceSub, ↓reduceIte, Int.reduceEq, Int.reduceNe, Nat.reduceLeDiff, one, Value.cells, Int.reduceLE, Int.reduceLT, Int.reduceToNat, add_mk, reduceCtorEq, List.mem_range'_1, true_and, and_true, and_false, false_and, Nat.reduceLT, Nat.reduceLeDiff, tyF, v4, s1, s2]
    refine st_all (hb33.more hm4) rfl rfl (by simpa using rbox_one A2 S.length c2 room term rate burst) fun w5 k1 k2 => ?_
    rw [s2_undef]
    rw [List.toList_toArray] at k2
    have v5 := k2.all_eq 5 rfl
    simp (config := {maxSteps := 1000000}) only [↓zvN, zvU, ↓up_apply, ↓hv_apply, ↓upO_some, ↓upO_none, ↓ev_tmp, ↓ev_const, ↓ev_func, ↓ev_global, init, Nat.reduceEqDiff, Nat.reduceAdd, Nat.reduceMul, Nat.reduceSub, ↓reduceIte, Int.reduceEq, Int.reduceNe, Nat.reduceLeDiff, one, Value.cells, Int.reduceLE, Int.reduceLT, Int.reduceToNat, add_mk, reduceCtorEq, List.mem_range'_1, true_and, and_true, and_false, false_and, Nat.reduceLT, Nat.reduceLeDiff, tyF, v5, s1, s2]
    exact ⟨A2, c2, rfl, hlc2, k1.cs (hA3.more hm4) (fun a ha => by have := hgeA a ha; omega), fun a ha => by have := hgeA a ha; omega, more_but (hm13.trans hm4) (But.of_wr k1) (by omega)⟩
  · have hkm : p ∈ keysM S := mem_keys.2 ⟨e.2, by rw [← hep]; exact List.mem_of_getElem? he⟩
    have hsS : SortedM S := by rw [← hS]; exact hs.sweep now
    rw [Nat.zero_add] at hi
    rw [hi, del_cutB hsS.nodup he hep, decide_eq_true hkm]
    have g0 : (0 : Int) ≤ (i : Int) := by omega
    have g2 : ¬ (i : Int) < 0 := by omega
    have ei : IntKind.i64.wrap ((i : Int) + 1) = ((i + 1 : Nat) : Int) := w64 (by omega) (by omega)
    have g3 : (0 : Int) ≤ ((i + 1 : Nat) : Int) := by omega
    have g4 : ((i + 1 : Nat) : Int) ≤ (S.length : Int) := by omega
    have g5 : i + 1 ≤ S.length := by omega
    have g6 : i ≤ c2 := by omega
    have hb4 := j2.more hm4
    have lb4 := hb4.lt
    simp (config := {maxSteps := 1000000}) only [↓zvN, zvU, ↓up_apply, ↓hv_apply, ↓upO_some, ↓upO_none, ↓ev_tmp, ↓ev_const, ↓ev_func, ↓ev_global, init, Nat.reduceEqDiff, Nat.reduceAdd, Nat.reduceMul, Nat.reduceSub, ↓reduceIte, Int.reduceEq, Int.reduceNe, Nat.reduceLeDiff, one, Value.cells, Int.reduceLE, Int.reduceLT, Int.reduceToNat, add_mk, reduceCtorEq, List.mem_range'_1, true_and, and_true, and_false, false_and, Nat.reduceLT, Nat.reduceLeDiff, tyF, g2, s1, s2]
    refine draw_lineM w4.heap.size More 12 [1, 0, 2, 0, 0, 1, 0, 2, 0, 0, 0, 1] [[], [], [1], [], [1, 2, 3], [0, 1, 2, 3, 4], [], [6], [], [8], [6, 7, 8, 9], [0, 1, 2, 3, 4, 5, 6, 7, 8, 9, 10], [0, 1, 2, 3, 4, 5, 6, 7, 8, 9, 10, 11], [0, 1, 2, 3, 4, 5, 6, 7, 8, 9, 10, 11, 12]] mixed (by kernel_rfl) (by kernel_rfl) (by kernel_rfl) (More.refl _) (fun w' h => h) (fun w' h => h) ?_
    intro w5 hm5
    simp (config := {maxSteps := 1000000}) only [↓zvN, zvU, ↓zqD, ↓sk_nil, ↓sk_cons, ↓sk_guard, ↓sk_zero, ↓sk_one, ↓sk_two, ↓up_apply, ↓hv_apply, ↓upO_some, ↓upO_none, ↓ev_tmp, ↓ev_const, ↓ev_func, ↓ev_global, init, Nat.reduceEqDiff, Nat.reduceAdd, Nat.reduceMul, Nat.reduceSub, ↓reduceIte, Int.reduceEq, Int.reduceNe, Nat.reduceLeDiff, one, Value.cells, Int.reduceLE, Int.reduceLT, Int.reduceToNat, add_mk, reduceCtorEq, List.mem_range'_1, true_and, and_true, and_false, false_and, Nat.reduceLT, Nat.reduceLeDiff, tyF, s1, s2, List.take_succ_cons, List.take_zero, List.drop_succ_cons, List.drop_zero]
    refine bslice0 Try.underlying75 reBE ?_
    have hm6 := more_alloc w5 (.cells #[] 125)
    have ho6 := Own.made w5 125 13 #[] 0 rfl (by simp [maxLen]) (Nat.le_refl _)
    obtain ⟨w6, hw6⟩ : ∃ w6, w5.alloc (.cells #[] 125) = w6 := ⟨_, rfl⟩
    rw [hw6] at hm6 ho6 ⊢
    clear hw6
    have hm46 := hm5.trans hm6
    simp (config := {maxSteps := 1000000}) only [↓zvN, zvU, ↓zqD, ↓sk_nil, ↓sk_cons, ↓sk_guard, ↓sk_zero, ↓sk_one, ↓sk_two, ↓up_apply, ↓hv_apply, ↓upO_some, ↓upO_none, ↓ev_tmp, ↓ev_const, ↓ev_func, ↓ev_global, init, Nat.reduceEqDiff, Nat.reduceAdd, Nat.reduceMul, Nat.reduceSub, ↓reduceIte, Int.reduceEq, Int.reduceNe, Nat.reduceLeDiff, one, Value.cells, Int.reduceLE, Int.reduceLT, Int.reduceToNat, add_mk, reduceCtorEq, List.mem_range'_1, true_and, and_true, and_false, false_and, Nat.reduceLT, Nat.reduceLeDiff, tyF, s1, s2, lb4]
    refine ⟨hm46, ?_⟩
    have rdA : ∀ wr, More w4 wr → wr.cell? ⟨w.heap.size, 0, none⟩ = some (.slice A2 S.length c2) := fun wr hkr => by rw [(hb4.more hkr).cell]; rfl
    refine read_ok (.slice A2 S.length c2) rfl (fun wr hkr => ?_) ?_
    · have cr := rdA wr hkr
      simp (config := {maxSteps := 1000000}) only [↓zvN, zvU, ↓up_apply, ↓hv_apply, ↓upO_some, ↓upO_none, ↓ev_tmp, ↓ev_const, ↓ev_func, ↓ev_global, init, Nat.reduceEqDiff, Nat.reduceAdd, Nat.reduceMul, Nat.reduceSub, ↓reduceIte, Int.reduceEq, Int.reduceNe, Nat.reduceLeDiff, one, Value.cells, Int.reduceLE, Int.reduceLT, Int.reduceToNat, add_mk, reduceCtorEq, List.mem_range'_1, true_and, and_true, and_false, false_and, Nat.reduceLT, Nat.reduceLeDiff, tyF, s1, s2, cr]
    simp (config := {maxSteps := 1000000}) only [↓zvN, zvU, ↓zqD, ↓sk_nil, ↓sk_cons, ↓sk_guard, ↓sk_zero, ↓sk_one, ↓sk_two, ↓up_apply, ↓hv_apply, ↓upO_some, ↓upO_none, ↓ev_tmp, ↓ev_const, ↓ev_func, ↓ev_global, init, Nat.reduceEqDiff, Nat.reduceAdd, Nat.reduceMul, Nat.reduceSub, ↓reduceIte, Int.reduceEq, Int.reduceNe, Nat.reduceLeDiff, one, Value.cells, Int.reduceLE, Int.reduceLT, Int.reduceToNat, add_mk, reduceCtorEq, List.mem_range'_1, true_and, and_true, and_false, false_and, Nat.reduceLT, Nat.reduceLeDiff, tyF, s1, s2, lb4, g0, g6, hlc2, Int.toNat_natCast]
    have hA4 := hA3.more hm4
    have hOt : ∀ m ∈ S.take i, (reB burst m).length = 13 := fun m hm => hO2.lens m (List.mem_of_mem_take hm)
    refine app_mod (m := i) (news := (S.take i).flatMap (reB burst)) Try.underlying75 reBE rfl (by omega) ho6 ((hA4.more hm46).rowTake i) (by rw [row_len (s := 13) _ hOt, List.length_take, Nat.min_eq_left (by omega)]) (fun u hu => by obtain ⟨e, _, he⟩ := List.mem_flatMap.1 hu; exact reB_one _ e u he) (by simp only [maxLen]; omega) (by omega) hm6.size ?_
    intro A9 c9 w9 ho9 hmd9 _
    simp only [Nat.zero_add, List.nil_append] at ho9 ⊢
    have hm9 : More w4 w9 := Mod.more hm46 hmd9 (fun j hj h => by have h' := (atB_some _ j).1 h; have := hm5.size; simp only at h'; omega)
    simp (config := {maxSteps := 1000000}) only [↓zvN, zvU, ↓zqD, ↓sk_nil, ↓sk_cons, ↓sk_guard, ↓sk_zero, ↓sk_one, ↓sk_two, ↓up_apply, ↓hv_apply, ↓upO_some, ↓upO_none, ↓ev_tmp, ↓ev_const, ↓ev_func, ↓ev_global, init, Nat.reduceEqDiff, Nat.reduceAdd, Nat.reduceMul, Nat.reduceSub, ↓reduceIte, Int.reduceEq, Int.reduceNe, Nat.reduceLeDiff, one, Value.cells, Int.reduceLE, Int.reduceLT, Int.reduceToNat, add_mk, reduceCtorEq, List.mem_range'_1, true_and, and_true, and_false, false_and, Nat.reduceLT, Nat.reduceLeDiff, tyF, s1, s2, lb4]
    refine ⟨hm9, ?_⟩
    refine read_ok (.slice A2 S.length c2) rfl (fun wr hkr => ?_) ?_
    · have cr := rdA wr hkr
      simp (config := {maxSteps := 1000000}) only [↓zvN, zvU, ↓up_apply, ↓hv_apply, ↓upO_some, ↓upO_none, ↓ev_tmp, ↓ev_const, ↓ev_func, ↓ev_global, init, Nat.reduceEqDiff, Nat.reduceAdd, Nat.reduceMul, Nat.reduceSub, ↓reduceIte, Int.reduceEq, Int.reduceNe, Nat.reduceLeDiff, one, Value.cells, Int.reduceLE, Int.reduceLT, Int.reduceToNat, add_mk, reduceCtorEq, List.mem_range'_1, true_and, and_true, and_false, false_and, Nat.reduceLT, Nat.reduceLeDiff, tyF, s1, s2, cr]
    simp (config := {maxSteps := 1000000}) only [↓zvN, zvU, ↓zqD, ↓sk_nil, ↓sk_cons, ↓sk_guard, ↓sk_zero, ↓sk_one, ↓sk_two, ↓up_apply, ↓hv_apply, ↓upO_some, ↓upO_none, ↓ev_tmp, ↓ev_const, ↓ev_func, ↓ev_global, init, Nat.reduceEqDiff, Nat.reduceAdd, Nat.reduceMul, Nat.reduceSub, ↓reduceIte, Int.reduceEq, Int.reduceNe, Nat.reduceLeDiff, one, Value.cells, Int.reduceLE, Int.reduceLT, Int.reduceToNat, add_mk, reduceCtorEq, List.mem_range'_1, true_and, and_true, and_false, false_and, Nat.reduceLT, Nat.reduceLeDiff, tyF, s1, s2, ei, g0, g3, g4, g5, g6, hlc2, Int.toNat_natCast]
    have hA9 := (hA4.more hm9).rowDrop (s := 13) hO2.lens hlc2 (i + 1)
    have hsz9 := hm6.size
    have hsz10 := hmd9.size
    have hOd : ∀ m ∈ S.drop (i + 1), (reB burst m).length = 13 := fun m hm => hO2.lens m (List.mem_of_mem_drop hm)
    refine app_mod (m := S.length - (i + 1)) (news := (S.drop (i + 1)).flatMap (reB burst)) Try.underlying75 reBE rfl (by omega) ho9 hA9 (by rw [row_len (s := 13) _ hOd, List.length_drop]) (fun u hu => by obtain ⟨e, _, he⟩ := List.mem_flatMap.1 hu; exact reB_one _ e u he) (by simp only [maxLen]; omega) (by omega) (by omega) ?_
    intro A10 c10 w10 ho10 hmd10 _
    have hm10 : More w4 w10 := Mod.more hm9 hmd10 (fun j hj h => by have := ho9.atB_ge h; have := hm5.size; omega)
    simp (config := {maxSteps := 1000000}) only [↓zvN, zvU, ↓zqD, ↓sk_nil, ↓sk_cons, ↓sk_guard, ↓sk_zero, ↓sk_one, ↓sk_two, ↓up_apply, ↓hv_apply, ↓upO_some, ↓upO_none, ↓ev_tmp, ↓ev_const, ↓ev_func, ↓ev_global, init, Nat.reduceEqDiff, Nat.reduceAdd, Nat.reduceMul, Nat.reduceSub, ↓reduceIte, Int.reduceEq, Int.reduceNe, Nat.reduceLeDiff, one, Value.cells, Int.reduceLE, Int.reduceLT, Int.reduceToNat, add_mk, reduceCtorEq, List.mem_range'_1, true_and, and_true, and_false, false_and, Nat.reduceLT, Nat.reduceLeDiff, tyF, s1, s2]
    refine ⟨hm10, ?_⟩
    have hge10 : ∀ a, A10 = some a → w.heap.size + 3 ≤ a.block := fun a ha => by
      have := (ho10.atB_ge ⟨a, ha, rfl⟩).1
      have := hm13.size
      have := hm4.size
      have := hm5.size
      have := j1.size
      have := hm2.size
      omega
    refine st_cell (hb4.more hm10) (by simp [rbox]) rfl fun w11 k1 k2 => ?_
    rw [s2_undef]
    replace k2 : Blk w11 w.heap.size 77 (rbox A10 (i + (S.length - (i + 1))) c10 room term rate burst) := k2
    have v11 := k2.all_eq 5 rfl
    simp (config := {maxSteps := 1000000}) only [↓zvN, zvU, ↓up_apply, ↓hv_apply, ↓upO_some, ↓upO_none, ↓ev_tmp, ↓ev_const, ↓ev_func, ↓ev_global, init, Nat.reduceEqDiff, Nat.reduceAdd, Nat.reduceMul, Nat.reduceSub, ↓reduceIte, Int.reduceEq, Int.reduceNe, Nat.reduceLeDiff, one, Value.cells, Int.reduceLE, Int.reduceLT, Int.reduceToNat, add_mk, reduceCtorEq, List.mem_range'_1, true_and, and_true, and_false, false_and, Nat.reduceLT, Nat.reduceLeDiff, tyF, v11, s1, s2]
    refine st_all (k1.blk (hb33.more (hm4.trans hm10)) (by omega)) rfl rfl (by simpa using rbox_one A10 (i + (S.length - (i + 1))) c10 room term rate burst) fun w12 q1 q2 => ?_
    rw [s2_undef]
    rw [List.toList_toArray] at q2
    have v12 := q2.all_eq 5 rfl
    simp (config := {maxSteps := 1000000}) only [↓zvN, zvU, ↓up_apply, ↓hv_apply, ↓upO_some, ↓upO_none, ↓ev_tmp, ↓ev_const, ↓ev_func, ↓ev_global, init, Nat.reduceEqDiff, Nat.reduceAdd, Nat.reduceMul, Nat.reduceSub, ↓reduceIte, Int.reduceEq, Int.reduceNe, Nat.reduceLeDiff, one, Value.cells, Int.reduceLE, Int.reduceLT, Int.reduceToNat, add_mk, reduceCtorEq, List.mem_range'_1, true_and, and_true, and_false, false_and, Nat.reduceLT, Nat.reduceLeDiff, tyF, v12, s1, s2]
    have hln : (S.take i ++ S.drop (i + 1)).length = i + (S.length - (i + 1)) := by rw [List.length_append, List.length_take, List.length_drop]; omega
    have hrow : (S.take i ++ S.drop (i + 1)).flatMap (reB burst) = (S.take i).flatMap (reB burst) ++ (S.drop (i + 1)).flatMap (reB burst) := by simp
    exact ⟨A10, c10, by rw [hln]; rfl, by rw [hln]; exact ho10.le, by rw [hrow]; exact q1.cs (k1.cs ho10.cs (fun a ha => by have := hge10 a ha; omega)) (fun a ha => by have := hge10 a ha; omega), fun a ha => by have := hge10 a ha; omega, more_but (more_but (hm13.trans (hm4.trans hm10)) (But.of_wr k1) (Nat.le_refl _)) (But.of_wr q1) (by omega)⟩
end Go.Proofs.Ytimhcjakpdebjaa
