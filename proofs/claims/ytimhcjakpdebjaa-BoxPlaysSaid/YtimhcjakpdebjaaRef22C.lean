/-
  Layer 22: what the document's box turns: Put.
-/
import Derived.Test.YtimhcjakpdebjaaRef22B
import Derived.Test.YtimhcjakpdebjaaApS

namespace Go.Proofs.Ytimhcjakpdebjaa
open Go Go.RowKit Go.Proofs.RV
set_option linter.unusedSimpArgs false
set_option linter.unusedVariables false
set_option maxRecDepth 10000
set_option maxHeartbeats 4000000
theorem zerEB : zer Try.prog 125 = some (.agg (reB 0 entZ).toArray) := by rw [zer125]; rfl
theorem reB_build (p : PrefM) (x burst : Int) (q : Nat) (t : TokM) (hp : p.addr.length = 7) (w0 : World) (K : Value → Prop) :
    pureP Try.prog (Instr.build 125 #[(0, .agg p.cells.toArray), (1, .int .i64 x), (2, .agg (rtok burst t).toArray)]) K = K (.agg (reB burst (p, ⟨x, q, t⟩)).toArray) := by
  have h8 : p.cells.length = 8 := by simp [PrefM.cells, hp]
  have pl : PlacesOk (placeOf Try.prog 125) 0 0 ([p.cells, [.int .i64 x], rtok burst t]) := by
    simp only [PlacesOk, placeOf, rtok, Try.underlying125, List.getElem?_toArray, List.getElem?_cons_zero, List.getElem?_cons_succ, Option.map_some, cells2, cells24, cells120, List.length_cons, h8, List.length_nil, Nat.reduceAdd, Nat.zero_add, and_self]
  have b := build_all (P := Try.prog) (T := 125) [.agg p.cells.toArray, .int .i64 x, .agg (rtok burst t).toArray] (out := reB burst (p, ⟨x, q, t⟩)) (by kernel_rfl) zerEB (by simpa [Value.cells] using pl)
    (by simp [Value.cells, reB, rtok, entZ, prefZ, noBytes, h8, PrefM.cells, hp]) (by simp [Value.cells, reB, rtok]) w0 K
  simp only [pairs, Nat.zero_add, Nat.reduceAdd] at b
  exact b
theorem new_rtok {rate burst : Int} (h : tokOk rate burst) (now : Int) : rtok burst ((tok0 rate burst).take now 0) = [.int .i64 rate, .int .i64 burst, .int .i64 (burst * 1048576), .int .i64 (max now 0)] := by
  have ho := tok0_ok h
  have ha : (tok0 rate burst).at_ now = burst * 1048576 := by
    have ⟨h1, h2, h3, h4⟩ := h
    have hm := mulM_range (now - 0) rate
    unfold TokM.at_ tok0
    simp only
    split
    · rfl
    · unfold addM countM
      omega
  have hc : (tok0 rate burst).can now 0 = true := by
    have ⟨h1, h2, h3, h4⟩ := h
    unfold TokM.can
    rw [ha]
    exact decide_eq_true ⟨by omega, by omega, by omega⟩
  unfold TokM.take
  rw [if_pos hc]
  unfold rtok TokM.upto
  simp only [ha]
  rw [show burst * 1048576 - 0 * 1048576 = burst * 1048576 by omega, show max (tok0 rate burst).now now = max now 0 by show max 0 now = max now 0; omega]
  rfl
theorem tw_specB {α : Type} {f : α → Bool} : ∀ {l : List α} {k : Nat}, (∀ e ∈ l.take k, f e = true) → (k = l.length ∨ ∃ e, l[k]? = some e ∧ f e = false) → l.takeWhile f = l.take k ∧ l.dropWhile f = l.drop k
  | [], k, _, _ => by simp
  | x :: l, 0, _, h => by
    rcases h with h | ⟨e, h, hf⟩
    · simp at h
    · simp only [List.getElem?_cons_zero, Option.some.injEq] at h
      subst h
      simp [hf]
  | x :: l, k + 1, ha, h => by
    have hx : f x = true := ha x (by simp)
    have ih := tw_specB (f := f) (l := l) (k := k) (fun e he => ha e (by simp [he])) (by
      rcases h with h | ⟨e, h, hf⟩
      · left; simpa using h
      · right; exact ⟨e, by simpa using h, hf⟩)
    simp [hx, ih.1, ih.2]
def PutBJ (l : BoxL) (p : PrefM) (w : World) (v12 : Value) (w' : World) : Prop := ∃ k : Nat, v12 = .int .i64 k ∧ k ≤ l.length ∧ (∀ e ∈ l.take k, decide (plt e.1 p) = true) ∧ More w w'
theorem ref_putB (w : World) (A : Option Addr) (L : BoxL) (c room : Nat) (term rate burst : Int) (p : PrefM) (now : Int) (hp : p.addr.length = 7) (hA : Cs w A (L.flatMap (reB burst))) (hO : POk L) (hs : SortedM L) (hl : L.length ≤ 1000000) (ht : tokOk rate burst) :
    Ret Try.prog 37 #[.agg (rbox A L.length c room term rate burst).toArray, .agg p.cells.toArray, .int .i64 now] w fun v w' => ∃ A' c', v = .tuple #[.agg (rbox A' (putB now L room p (newE now term rate burst 0)).length c' room term rate burst).toArray, .int .i64 (putCode now L room p)] ∧ (putB now L room p (newE now term rate burst 0)).length ≤ c' ∧ Cs w' A' ((putB now L room p (newE now term rate burst 0)).flatMap (reB burst)) ∧ (∀ a, A' = some a → w.heap.size ≤ a.block) ∧ More w w' := by
  refine ret_of Try.func37 rfl (by kernel_rfl) (Nat.le_of_ble_eq_true (by kernel_rfl)) ?_
  unfold putB putCode
  have hm1 := more_alloc w (.cells (rbox A L.length c room term rate burst).toArray 77)
  have hb1 := Blk.new w 77 (rbox A L.length c room term rate burst).toArray
  have s1 := size_alloc w (.cells (rbox A L.length c room term rate burst).toArray 77)
  have hm2 := more_alloc (w.alloc (.cells (rbox A L.length c room term rate burst).toArray 77)) (.cells p.cells.toArray 24)
  have hb2 := Blk.new (w.alloc (.cells (rbox A L.length c room term rate burst).toArray 77)) 24 p.cells.toArray
  have s2 := size_alloc (w.alloc (.cells (rbox A L.length c room term rate burst).toArray 77)) (.cells p.cells.toArray 24)
  have hm3 := more_alloc ((w.alloc (.cells (rbox A L.length c room term rate burst).toArray 77)).alloc (.cells p.cells.toArray 24)) (.cells (rbox none 0 0 0 0 0 0).toArray 77)
  have hb3 := Blk.new ((w.alloc (.cells (rbox A L.length c room term rate burst).toArray 77)).alloc (.cells p.cells.toArray 24)) 77 (rbox none 0 0 0 0 0 0).toArray
  replace hb1 := hb1.more (hm2.trans hm3)
  replace hb2 := hb2.more hm3
  have hm := (hm1.trans hm2).trans hm3
  rw [s2, s1] at hb3
  rw [s1] at hb2
  rw [s1] at s2
  rw [List.toList_toArray] at hb1 hb2 hb3
  simp (config := {maxSteps := 1000000}) only [↓zvN, zvU, ↓up_apply, ↓hv_apply, ↓upO_some, ↓upO_none, ↓ev_tmp, ↓ev_const, ↓ev_func, ↓ev_global, init, Nat.reduceEqDiff, Nat.reduceAdd, Nat.reduceMul, Nat.reduceSub, ↓reduceIte, Int.reduceEq, Int.reduceNe, Nat.reduceLeDiff, one, Value.cells, Int.reduceLE, Int.reduceLT, Int.reduceToNat, add_mk, reduceCtorEq, List.mem_range'_1, true_and, and_true, and_false, false_and, Nat.reduceLT, Nat.reduceLeDiff, tyF, s1, s2, zerRB]
  obtain ⟨w1, hw1⟩ : ∃ w1, ((w.alloc (.cells (rbox A L.length c room term rate burst).toArray 77)).alloc (.cells p.cells.toArray 24)).alloc (.cells (rbox none 0 0 0 0 0 0).toArray 77) = w1 := ⟨_, rfl⟩
  rw [hw1] at hb1 hb2 hb3 hm ⊢
  have sw1 : w1.heap.size = w.heap.size + 1 + 1 + 1 := by rw [← hw1, size_alloc, s2]
  clear hw1 hm1 hm2 hm3
  have v1 := hb1.all_eq 5 rfl
  simp (config := {maxSteps := 1000000}) only [↓zvN, zvU, ↓up_apply, ↓hv_apply, ↓upO_some, ↓upO_none, ↓ev_tmp, ↓ev_const, ↓ev_func, ↓ev_global, init, Nat.reduceEqDiff, Nat.reduceAdd, Nat.reduceMul, Nat.reduceSub, ↓reduceIte, Int.reduceEq, Int.reduceNe, Nat.reduceLeDiff, one, Value.cells, Int.reduceLE, Int.reduceLT, Int.reduceToNat, add_mk, reduceCtorEq, List.mem_range'_1, true_and, and_true, and_false, false_and, Nat.reduceLT, Nat.reduceLeDiff, tyF, v1, s1, s2]
  refine call_ok Try.call38 (ref_sweep w1 A L c room term rate burst now (hA.more hm) hO hl) ?_
  rintro _ w2 ⟨A2, c2, rfl, hlc2, hA2, hge2, hm2⟩
  obtain ⟨S, hS⟩ : ∃ S, sweepL now L = S := ⟨_, rfl⟩
  have hO2 : POk S := by rw [← hS]; exact fun e he => hO e (List.mem_filter.1 he).1
  have hl2 : S.length ≤ 1000000 := by rw [← hS]; exact Nat.le_trans (sweep_len now L) hl
  rw [hS] at hlc2 hA2 ⊢
  simp (config := {maxSteps := 1000000}) only [↓zvN, zvU, ↓up_apply, ↓hv_apply, ↓upO_some, ↓upO_none, ↓ev_tmp, ↓ev_const, ↓ev_func, ↓ev_global, init, Nat.reduceEqDiff, Nat.reduceAdd, Nat.reduceMul, Nat.reduceSub, ↓reduceIte, Int.reduceEq, Int.reduceNe, Nat.reduceLeDiff, one, Value.cells, Int.reduceLE, Int.reduceLT, Int.reduceToNat, add_mk, reduceCtorEq, List.mem_range'_1, true_and, and_true, and_false, false_and, Nat.reduceLT, Nat.reduceLeDiff, tyF, s1, s2]
  refine st_all (hb1.more hm2) rfl rfl (by simpa using rbox_one A2 S.length c2 room term rate burst) fun w3 j1 j2 => ?_
  rw [s2_undef]
  rw [List.toList_toArray] at j2
  have hgeA : ∀ a, A2 = some a → w.heap.size + 3 ≤ a.block := fun a ha => by have := hge2 a ha; omega
  have hA3 := j1.cs hA2 (fun a ha => by have := hgeA a ha; omega)
  have hb23 := j1.blk (hb2.more hm2) (by omega)
  have hb33 := j1.blk (hb3.more hm2) (by omega)
  have hm13 : More w w3 := more_but (hm.trans hm2) (But.of_wr j1) (Nat.le_refl _)
  have v3 := j2.all_eq 5 rfl
  have hpl : p.cells.length = 8 := by simp [PrefM.cells, hp]
  have q3 := hb23.all_eq 8 hpl
  simp (config := {maxSteps := 1000000}) only [↓zvN, zvU, ↓up_apply, ↓hv_apply, ↓upO_some, ↓upO_none, ↓ev_tmp, ↓ev_const, ↓ev_func, ↓ev_global, init, Nat.reduceEqDiff, Nat.reduceAdd, Nat.reduceMul, Nat.reduceSub, ↓reduceIte, Int.reduceEq, Int.reduceNe, Nat.reduceLeDiff, one, Value.cells, Int.reduceLE, Int.reduceLT, Int.reduceToNat, add_mk, reduceCtorEq, List.mem_range'_1, true_and, and_true, and_false, false_and, Nat.reduceLT, Nat.reduceLeDiff, tyF, v3, q3, s1, s2]
  refine call_ok Try.call39 (ref_findB w3 A2 S c2 room term rate burst p hp hA3 hO2 hl2) ?_
  rintro _ w4 ⟨rfl, hm4⟩
  rcases idxB_spec (p := p) S 0 with ⟨hi, hk⟩ | ⟨i, hi, hil, e, he, hep⟩
  rotate_left
  · have hkm : p ∈ keysM S := mem_keys.2 ⟨e.2, by rw [← hep]; exact List.mem_of_getElem? he⟩
    rw [Nat.zero_add] at hi
    have g0 : (0 : Int) ≤ (i : Int) := by omega
    have v4 := (j2.more hm4).all_eq 5 rfl
    rw [hi, if_pos hkm, if_pos hkm]
    simp (config := {maxSteps := 1000000}) only [↓zvN, zvU, ↓up_apply, ↓hv_apply, ↓upO_some, ↓upO_none, ↓ev_tmp, ↓ev_const, ↓ev_func, ↓ev_global, init, Nat.reduceEqDiff, Nat.reduceAdd, Nat.reduceMul, Nat.reduceSub, ↓reduceIte, Int.reduceEq, Int.reduceNe, Nat.reduceLeDiff, one, Value.cells, Int.reduceLE, Int.reduceLT, Int.reduceToNat, add_mk, reduceCtorEq, List.mem_range'_1, true_and, and_true, and_false, false_and, Nat.reduceLT, Nat.reduceLeDiff, tyF, v4, g0, s1, s2]
    refine st_all (hb33.more hm4) rfl rfl (by simpa using rbox_one A2 S.length c2 room term rate burst) fun w5 k1 k2 => ?_
    rw [s2_undef]
    rw [List.toList_toArray] at k2
    have v5 := k2.all_eq 5 rfl
    simp (config := {maxSteps := 1000000}) only [↓zvN, zvU, ↓up_apply, ↓hv_apply, ↓upO_some, ↓upO_none, ↓ev_tmp, ↓ev_const, ↓ev_func, ↓ev_global, init, Nat.reduceEqDiff, Nat.reduceAdd, Nat.reduceMul, Nat.reduceSub, ↓reduceIte, Int.reduceEq, Int.reduceNe, Nat.reduceLeDiff, one, Value.cells, Int.reduceLE, Int.reduceLT, Int.reduceToNat, add_mk, reduceCtorEq, List.mem_range'_1, true_and, and_true, and_false, false_and, Nat.reduceLT, Nat.reduceLeDiff, tyF, v5, s1, s2]
    exact ⟨A2, c2, rfl, hlc2, k1.cs (hA3.more hm4) (fun a ha => by have := hgeA a ha; omega), fun a ha => by have := hgeA a ha; omega, more_but (hm13.trans hm4) (But.of_wr k1) (by omega)⟩
  have v4 := (j2.more hm4).all_eq 5 rfl
  have hb4 := j2.more hm4
  have c40 : w4.cell? ⟨w.heap.size, 0, none⟩ = some (.slice A2 S.length c2) := by rw [hb4.cell]; rfl
  have c41 : w4.cell? ⟨w.heap.size, 1, none⟩ = some (.int .i64 room) := by rw [hb4.cell]; rfl
  have c42 : w4.cell? ⟨w.heap.size, 2, none⟩ = some (.int .i64 term) := by rw [hb4.cell]; rfl
  have c43 : w4.cell? ⟨w.heap.size, 3, none⟩ = some (.int .i64 rate) := by rw [hb4.cell]; rfl
  have c44 : w4.cell? ⟨w.heap.size, 4, none⟩ = some (.int .i64 burst) := by rw [hb4.cell]; rfl
  have lb4 := hb4.lt
  rw [hi, if_neg hk, if_neg hk]
  by_cases hr : S.length < room
  rotate_left
  · rw [if_neg hr, if_neg hr]
    have hI : (room : Int) ≤ (S.length : Int) := by omega
    simp (config := {maxSteps := 1000000}) only [↓zvN, zvU, ↓up_apply, ↓hv_apply, ↓upO_some, ↓upO_none, ↓ev_tmp, ↓ev_const, ↓ev_func, ↓ev_global, init, Nat.reduceEqDiff, Nat.reduceAdd, Nat.reduceMul, Nat.reduceSub, ↓reduceIte, Int.reduceEq, Int.reduceNe, Nat.reduceLeDiff, one, Value.cells, Int.reduceLE, Int.reduceLT, Int.reduceToNat, add_mk, reduceCtorEq, List.mem_range'_1, true_and, and_true, and_false, false_and, Nat.reduceLT, Nat.reduceLeDiff, tyF, v4, hI, c40, c41, s1, s2]
    refine st_all (hb33.more hm4) rfl rfl (by simpa using rbox_one A2 S.length c2 room term rate burst) fun w5 k1 k2 => ?_
    rw [s2_undef]
    rw [List.toList_toArray] at k2
    have v5 := k2.all_eq 5 rfl
    simp (config := {maxSteps := 1000000}) only [↓zvN, zvU, ↓up_apply, ↓hv_apply, ↓upO_some, ↓upO_none, ↓ev_tmp, ↓ev_const, ↓ev_func, ↓ev_global, init, Nat.reduceEqDiff, Nat.reduceAdd, Nat.reduceMul, Nat.reduceSub, ↓reduceIte, Int.reduceEq, Int.reduceNe, Nat.reduceLeDiff, one, Value.cells, Int.reduceLE, Int.reduceLT, Int.reduceToNat, add_mk, reduceCtorEq, List.mem_range'_1, true_and, and_true, and_false, false_and, Nat.reduceLT, Nat.reduceLeDiff, tyF, v5, s1, s2]
    exact ⟨A2, c2, rfl, hlc2, k1.cs (hA3.more hm4) (fun a ha => by have := hgeA a ha; omega), fun a ha => by have := hgeA a ha; omega, more_but (hm13.trans hm4) (But.of_wr k1) (by omega)⟩
  rw [if_pos hr, if_pos hr]
  have hI : ¬ (room : Int) ≤ (S.length : Int) := by omega
  simp (config := {maxSteps := 1000000}) only [↓zvN, zvU, ↓up_apply, ↓hv_apply, ↓upO_some, ↓upO_none, ↓ev_tmp, ↓ev_const, ↓ev_func, ↓ev_global, init, Nat.reduceEqDiff, Nat.reduceAdd, Nat.reduceMul, Nat.reduceSub, ↓reduceIte, Int.reduceEq, Int.reduceNe, Nat.reduceLeDiff, one, Value.cells, Int.reduceLE, Int.reduceLT, Int.reduceToNat, add_mk, reduceCtorEq, List.mem_range'_1, true_and, and_true, and_false, false_and, Nat.reduceLT, Nat.reduceLeDiff, tyF, hI, c40, c41, c43, c44, s1, s2]
  refine call_ok Try.call59 (rt_new w4 rate burst ht) ?_
  rintro _ w5 ⟨rfl, hm5⟩
  simp (config := {maxSteps := 1000000}) only [↓zvN, zvU, ↓up_apply, ↓hv_apply, ↓upO_some, ↓upO_none, ↓ev_tmp, ↓ev_const, ↓ev_func, ↓ev_global, init, Nat.reduceEqDiff, Nat.reduceAdd, Nat.reduceMul, Nat.reduceSub, ↓reduceIte, Int.reduceEq, Int.reduceNe, Nat.reduceLeDiff, one, Value.cells, Int.reduceLE, Int.reduceLT, Int.reduceToNat, add_mk, reduceCtorEq, List.mem_range'_1, true_and, and_true, and_false, false_and, Nat.reduceLT, Nat.reduceLeDiff, tyF, zerRT, s1, s2]
  have hmt := more_alloc w5 (.cells #[.int .i64 0, .int .i64 0, .int .i64 0, .int .i64 0] 120)
  have hbt := Blk.new w5 120 #[.int .i64 0, .int .i64 0, .int .i64 0, .int .i64 0]
  obtain ⟨w6, hw6⟩ : ∃ w6, w5.alloc (.cells #[.int .i64 0, .int .i64 0, .int .i64 0, .int .i64 0] 120) = w6 := ⟨_, rfl⟩
  rw [hw6] at hmt hbt ⊢
  clear hw6
  have hs5 := hm5.size
  have hs4 := hm4.size
  have hs13 := hm13.size
  have hj1 := j1.size
  have hs2 := hm2.size
  refine st_all hbt rfl rfl (by intro u hu; simp [rtok] at hu; rcases hu with rfl | rfl | rfl | rfl <;> rfl) fun w7 t1 t2 => ?_
  rw [s2_undef]
  rw [List.toList_toArray] at t2
  have hm7 : More w4 w7 := more_but (hm5.trans hmt) (But.of_wr t1) hs5
  obtain ⟨tb, htb⟩ : ∃ q, w5.heap.size = q := ⟨_, rfl⟩
  rw [htb] at t1 t2 ⊢
  simp (config := {maxSteps := 1000000}) only [↓zvN, zvU, ↓up_apply, ↓hv_apply, ↓upO_some, ↓upO_none, ↓ev_tmp, ↓ev_const, ↓ev_func, ↓ev_global, init, Nat.reduceEqDiff, Nat.reduceAdd, Nat.reduceMul, Nat.reduceSub, ↓reduceIte, Int.reduceEq, Int.reduceNe, Nat.reduceLeDiff, one, Value.cells, Int.reduceLE, Int.reduceLT, Int.reduceToNat, add_mk, reduceCtorEq, List.mem_range'_1, true_and, and_true, and_false, false_and, Nat.reduceLT, Nat.reduceLeDiff, tyF, s1, s2]
  refine call_ok Try.call60 (ref_clamp w7 now) ?_
  rintro _ w8 ⟨rfl, hw87⟩
  subst hw87
  simp (config := {maxSteps := 1000000}) only [↓zvN, zvU, ↓up_apply, ↓hv_apply, ↓upO_some, ↓upO_none, ↓ev_tmp, ↓ev_const, ↓ev_func, ↓ev_global, init, Nat.reduceEqDiff, Nat.reduceAdd, Nat.reduceMul, Nat.reduceSub, ↓reduceIte, Int.reduceEq, Int.reduceNe, Nat.reduceLeDiff, one, Value.cells, Int.reduceLE, Int.reduceLT, Int.reduceToNat, add_mk, reduceCtorEq, List.mem_range'_1, true_and, and_true, and_false, false_and, Nat.reduceLT, Nat.reduceLeDiff, tyF, s1, s2]
  refine st_cell t2 (by simp [rtok]) rfl fun w9 u1 u2 => ?_
  rw [s2_undef]
  replace u2 : Blk w9 tb 120 (rtok burst ((tok0 rate burst).take now 0)) := by rw [new_rtok ht]; exact u2
  have hm9 : More w4 w9 := more_but hm7 (But.of_wr u1) (by omega)
  have hb9 := hb4.more hm9
  have hp9 := (hb23.more hm4).more hm9
  have v9 := u2.all_eq 4 rfl
  have q9 := hp9.all_eq 8 hpl
  have c92 : w9.cell? ⟨w.heap.size, 2, none⟩ = some (.int .i64 term) := by rw [hb9.cell]; rfl
  have lb9 := hb9.lt
  have lp9 := hp9.lt
  have lt9 := u2.lt
  simp (config := {maxSteps := 1000000}) only [↓zvN, zvU, ↓up_apply, ↓hv_apply, ↓upO_some, ↓upO_none, ↓ev_tmp, ↓ev_const, ↓ev_func, ↓ev_global, init, Nat.reduceEqDiff, Nat.reduceAdd, Nat.reduceMul, Nat.reduceSub, ↓reduceIte, Int.reduceEq, Int.reduceNe, Nat.reduceLeDiff, one, Value.cells, Int.reduceLE, Int.reduceLT, Int.reduceToNat, add_mk, reduceCtorEq, List.mem_range'_1, true_and, and_true, and_false, false_and, Nat.reduceLT, Nat.reduceLeDiff, tyF, s1, s2]
  obtain ⟨mx, hmx⟩ : ∃ mx, max now 0 = mx := ⟨_, rfl⟩
  have hcl : ∀ w3, Ret Try.prog 60 #[.int .i64 now] w3 fun v w' => v = .int .i64 mx ∧ w' = w3 := fun w3 => by rw [← hmx]; exact ref_clamp w3 now
  have hadd : addM mx term = addM now term := by rw [← hmx]; unfold addM countM; congr 2; omega
  have bd := fun K => reB_build p (addM now term) burst 0 ((tok0 rate burst).take now 0) hp w9 K
  refine draw_seen 9 [[], [], [1], [], [3], [1, 2, 3, 4], [], [0, 1, 2, 3, 4, 5, 6], [], [0, 1, 2, 3, 4, 5, 6, 7, 8]] (RV.look [(2, RV.IsV (.int .i64 mx)), (5, RV.IsV (.int .i64 (addM now term))), (8, fun v w' => ∃ r, v = .pointer (some ⟨r, 0, none⟩) ∧ w9.heap.size ≤ r ∧ Blk w' r 125 (reB 0 entZ))]) mixed (by kernel_rfl) (by kernel_rfl) (look_all _ ?_) ?_
  · intro y hy v a b hab
    simp only [List.mem_cons, List.not_mem_nil, or_false] at hy
    rcases hy with rfl | rfl | rfl
    · exact fun h => h
    · exact fun h => h
    · rintro ⟨r, rfl, h1, h2⟩
      exact ⟨r, rfl, h1, h2.more hab⟩
  simp (config := {maxSteps := 1000000}) only [↓zvN, zvU, ↓zqD, ↓up_apply, ↓hv_apply, ↓upO_some, ↓upO_none, ↓ev_tmp, ↓ev_const, ↓ev_func, ↓ev_global, init, Nat.reduceEqDiff, Nat.reduceAdd, Nat.reduceMul, Nat.reduceSub, ↓reduceIte, Int.reduceEq, Int.reduceNe, Nat.reduceLeDiff, one, Value.cells, Int.reduceLE, Int.reduceLT, Int.reduceToNat, add_mk, reduceCtorEq, List.mem_range'_1, true_and, and_true, and_false, false_and, Nat.reduceLT, Nat.reduceLeDiff, tyF, s1, s2, q9, v9, c92, lb9, lp9, lt9]
  refine ⟨fun w10 hm10 => call_ok Try.call60 (hcl w10) ?_, ?_⟩
  · rintro _ w11 ⟨rfl, rfl⟩
    simp (config := {maxSteps := 1000000}) only [↓zvN, zvU, ↓zqD, ↓up_apply, ↓hv_apply, ↓upO_some, ↓upO_none, ↓ev_tmp, ↓ev_const, ↓ev_func, ↓ev_global, init, Nat.reduceEqDiff, Nat.reduceAdd, Nat.reduceMul, Nat.reduceSub, ↓reduceIte, Int.reduceEq, Int.reduceNe, Nat.reduceLeDiff, one, Value.cells, Int.reduceLE, Int.reduceLT, Int.reduceToNat, add_mk, reduceCtorEq, List.mem_range'_1, true_and, and_true, and_false, false_and, Nat.reduceLT, Nat.reduceLeDiff, tyF]
    exact ⟨More.refl _, rfl⟩
  rintro _ ⟨_, _, rfl⟩
  simp (config := {maxSteps := 1000000}) only [↓zvN, zvU, ↓zqD, ↓up_apply, ↓hv_apply, ↓upO_some, ↓upO_none, ↓ev_tmp, ↓ev_const, ↓ev_func, ↓ev_global, init, Nat.reduceEqDiff, Nat.reduceAdd, Nat.reduceMul, Nat.reduceSub, ↓reduceIte, Int.reduceEq, Int.reduceNe, Nat.reduceLeDiff, one, Value.cells, Int.reduceLE, Int.reduceLT, Int.reduceToNat, add_mk, reduceCtorEq, List.mem_range'_1, true_and, and_true, and_false, false_and, Nat.reduceLT, Nat.reduceLeDiff, tyF, s1, s2, q9, v9, c92, lb9, lp9, lt9]
  refine ⟨fun w10 hm10 _ => call_ok Try.call61 (ref_add w10 mx term) ?_, ?_⟩
  · rintro _ w11 ⟨rfl, rfl⟩
    simp (config := {maxSteps := 1000000}) only [↓zvN, zvU, ↓zqD, ↓up_apply, ↓hv_apply, ↓upO_some, ↓upO_none, ↓ev_tmp, ↓ev_const, ↓ev_func, ↓ev_global, init, Nat.reduceEqDiff, Nat.reduceAdd, Nat.reduceMul, Nat.reduceSub, ↓reduceIte, Int.reduceEq, Int.reduceNe, Nat.reduceLeDiff, one, Value.cells, Int.reduceLE, Int.reduceLT, Int.reduceToNat, add_mk, reduceCtorEq, List.mem_range'_1, true_and, and_true, and_false, false_and, Nat.reduceLT, Nat.reduceLeDiff, tyF]
    rw [hadd]
    exact ⟨More.refl _, rfl⟩
  rintro _ ⟨_, _, _, rfl⟩
  simp (config := {maxSteps := 1000000}) only [↓zvN, zvU, ↓zqD, ↓up_apply, ↓hv_apply, ↓upO_some, ↓upO_none, ↓ev_tmp, ↓ev_const, ↓ev_func, ↓ev_global, init, Nat.reduceEqDiff, Nat.reduceAdd, Nat.reduceMul, Nat.reduceSub, ↓reduceIte, Int.reduceEq, Int.reduceNe, Nat.reduceLeDiff, one, Value.cells, Int.reduceLE, Int.reduceLT, Int.reduceToNat, add_mk, reduceCtorEq, List.mem_range'_1, true_and, and_true, and_false, false_and, Nat.reduceLT, Nat.reduceLeDiff, tyF, s1, s2, q9, v9, c92, lb9, lp9, lt9, bd, zerEB]
  refine ⟨fun w10 hm10 => ?_, ?_⟩
  · exact ⟨more_alloc w10 _, w10.heap.size, rfl, hm10.size, Blk.new w10 _ _⟩
  rintro _ ⟨w10, hm10, _, r, rfl, hrge, _⟩
  rw [stop1]
  simp (config := {maxSteps := 1000000}) only [↓zvN, zvU, ↓zqD, ↓up_apply, ↓hv_apply, ↓upO_some, ↓upO_none, ↓ev_tmp, ↓ev_const, ↓ev_func, ↓ev_global, init, Nat.reduceEqDiff, Nat.reduceAdd, Nat.reduceMul, Nat.reduceSub, ↓reduceIte, Int.reduceEq, Int.reduceNe, Nat.reduceLeDiff, one, Value.cells, Int.reduceLE, Int.reduceLT, Int.reduceToNat, add_mk, reduceCtorEq, List.mem_range'_1, true_and, and_true, and_false, false_and, Nat.reduceLT, Nat.reduceLeDiff, tyF]
  intro w11 hm11 hd11
  obtain ⟨_, _, r', er, _, hbr⟩ := hd11
  injection er with er
  injection er with er
  injection er with er
  subst er
  obtain ⟨nb, hnb⟩ : ∃ nb : BoxE, (⟨addM now term, 0, (tok0 rate burst).take now 0⟩ : BoxE) = nb := ⟨_, rfl⟩
  rw [show newE now term rate burst 0 = nb from hnb]
  rw [hnb]
  refine st_all hbr (by simp [reB_len (burst := burst) (e := (p, nb)) hp]) (reB_len (burst := 0) (e := entZ) rfl) (by simpa using reB_one burst (p, nb)) fun w12 r1 r2 => ?_
  rw [s2_undef]
  rw [List.toList_toArray] at r2
  have hm12 : More w4 w12 := more_but (hm9.trans hm11) (But.of_wr r1) (by have := hm9.size; omega)
  simp (config := {maxSteps := 1000000}) only [↓zvN, zvU, ↓up_apply, ↓hv_apply, ↓upO_some, ↓upO_none, ↓ev_tmp, ↓ev_const, ↓ev_func, ↓ev_global, init, Nat.reduceEqDiff, Nat.reduceAdd, Nat.reduceMul, Nat.reduceSub, ↓reduceIte, Int.reduceEq, Int.reduceNe, Nat.reduceLeDiff, one, Value.cells, Int.reduceLE, Int.reduceLT, Int.reduceToNat, add_mk, reduceCtorEq, List.mem_range'_1, true_and, and_true, and_false, false_and, Nat.reduceLT, Nat.reduceLeDiff, tyF, s1, s2]
  refine loop_p (10 :: List.range' 42 17) (fun e w' => PutBJ S p w12 (e 10) w') (fun e _ => S.length - (numOf (e 10)).toNat) ?_ ?_
  · exact ⟨0, by simp only [hv_apply, up_apply, upO_some, upO_none, init, List.mem_cons, List.mem_range'_1, true_and, and_true, and_false, false_and, Nat.reduceLT, Nat.reduceLeDiff, Nat.reduceAdd, true_or, or_true, if_true, if_false, ↓reduceIte, Nat.reduceEqDiff, false_or, or_false, List.not_mem_nil, List.getElem?_cons_zero, List.getElem?_cons_succ, Option.getD_some] <;> rfl, by omega, by simp, More.refl _⟩
  rintro v w13 ⟨k, h10, hkl, hall, hm13'⟩
  simp only [hv_apply, up_apply, upO_some, upO_none, init, List.mem_cons, List.mem_range'_1, true_and, and_true, and_false, false_and, Nat.reduceLT, Nat.reduceLeDiff, Nat.reduceAdd, true_or, or_true, if_true, if_false, ↓reduceIte, Nat.reduceEqDiff, false_or, or_false, List.not_mem_nil, List.getElem?_cons_zero, List.getElem?_cons_succ, Option.getD_some] at h10
  have ek : IntKind.i64.wrap ((k : Int) + 1) = ((k + 1 : Nat) : Int) := w64 (by omega) (by omega)
  have hm413 : More w4 w13 := hm12.trans hm13'
  have hb13 := hb4.more hm413
  have hp13 := (hb23.more hm4).more hm413
  have q13 := hp13.all_eq 8 hpl
  have c130 : w13.cell? ⟨w.heap.size, 0, none⟩ = some (.slice A2 S.length c2) := by rw [hb13.cell]; rfl
  have lb13 := hb13.lt
  have lp13 := hp13.lt
  have hA13 := (hA3.more hm4).more hm413
  by_cases hkn : k < S.length
  rotate_left
  · have hkI : ¬ (k : Int) < (S.length : Int) := by omega
    simp (config := {maxSteps := 1000000}) only [↓zvN, zvU, ↓up_apply, ↓hv_apply, ↓upO_some, ↓upO_none, ↓ev_tmp, ↓ev_const, ↓ev_func, ↓ev_global, init, Nat.reduceEqDiff, Nat.reduceAdd, Nat.reduceMul, Nat.reduceSub, ↓reduceIte, Int.reduceEq, Int.reduceNe, Nat.reduceLeDiff, one, Value.cells, Int.reduceLE, Int.reduceLT, Int.reduceToNat, add_mk, reduceCtorEq, List.mem_range'_1, true_and, and_true, and_false, false_and, Nat.reduceLT, Nat.reduceLeDiff, tyF, h10, s1, s2]
    refine draw_calm mixed (by kernel_rfl) ?_
    simp (config := {maxSteps := 1000000}) only [↓zvN, zvU, ↓zqD, ↓up_apply, ↓hv_apply, ↓upO_some, ↓upO_none, ↓ev_tmp, ↓ev_const, ↓ev_func, ↓ev_global, init, Nat.reduceEqDiff, Nat.reduceAdd, Nat.reduceMul, Nat.reduceSub, ↓reduceIte, Int.reduceEq, Int.reduceNe, Nat.reduceLeDiff, one, Value.cells, Int.reduceLE, Int.reduceLT, Int.reduceToNat, add_mk, reduceCtorEq, List.mem_range'_1, true_and, and_true, and_false, false_and, Nat.reduceLT, Nat.reduceLeDiff, tyF, h10, hkI, s1, s2, c130, lb13]
    intro w14 hm14
    have hstop : k = S.length ∨ ∃ e : PrefM × BoxE, S[k]? = some e ∧ decide (plt e.1 p) = false := .inl (by omega)
    have hm414 := hm413.trans hm14
    have hm1214 := hm13'.trans hm14
    obtain ⟨htw, hdw⟩ := tw_specB (f := fun e : PrefM × BoxE => decide (plt e.1 p)) hall hstop
    have hputl : putL S p nb = S.take k ++ (p, nb) :: S.drop k := by unfold putL; rw [if_neg hk, htw, hdw]
    have hOt : ∀ m ∈ S.take k, (reB burst m).length = 13 := fun m hm => hO2.lens m (List.mem_of_mem_take hm)
    have hOd : ∀ m ∈ S.drop k, (reB burst m).length = 13 := fun m hm => hO2.lens m (List.mem_of_mem_drop hm)
    have hlt : ((S.take k).flatMap (reB burst)).length = k * 13 := by rw [row_len (s := 13) _ hOt, List.length_take, Nat.min_eq_left hkl]
    have hld : ((S.drop k).flatMap (reB burst)).length = (S.length - k) * 13 := by rw [row_len (s := 13) _ hOd, List.length_drop]
    have hle : (reB burst (p, nb)).length = 13 := reB_len hp
    obtain ⟨Lr, hLr⟩ : ∃ Lr, (S.take k).flatMap (reB burst) ++ reB burst (p, nb) ++ (S.drop k).flatMap (reB burst) = Lr := ⟨_, rfl⟩
    have hL0 : [] = Lr.take (0 * 13) := by simp
    have hLk : (S.take k).flatMap (reB burst) = Lr.take (k * 13) := by rw [← hLr, List.append_assoc, List.take_left' hlt]
    have hLe : (S.take k).flatMap (reB burst) ++ reB burst (p, nb) = Lr.take ((k + 1) * 13) := by rw [← hLr, List.take_left' (by rw [List.length_append, hlt, hle]; omega)]
    have hLn : (S.take k).flatMap (reB burst) ++ reB burst (p, nb) ++ (S.drop k).flatMap (reB burst) = Lr.take ((S.length + 1) * 13) := by rw [hLr, List.take_of_length_le]; rw [← hLr, List.length_append, List.length_append, hlt, hle, hld]; omega
    have hb6 := hb4.more hm414
    have c60 : w14.cell? ⟨w.heap.size, 0, none⟩ = some (.slice A2 S.length c2) := by rw [hb6.cell]; rfl
    have lb6 := hb6.lt
    have hA6 := (hA3.more hm4).more hm414
    have hkc : k ≤ c2 := Nat.le_trans hkl hlc2
    have hkI2 : (k : Int) ≤ (S.length : Int) := by omega
    have g0' : (0 : Int) ≤ (k : Int) := by omega
    have r6 := (r2.more hm1214).all_eq 13 hle
    have lr6 := (r2.more hm1214).lt
    try simp (config := {maxSteps := 1000000}) only [↓zvN, zvU, ↓up_apply, ↓hv_apply, ↓upO_some, ↓upO_none, ↓ev_tmp, ↓ev_const, ↓ev_func, ↓ev_global, init, Nat.reduceEqDiff, Nat.reduceAdd, Nat.reduceMul, Nat.reduceSub, ↓reduceIte, Int.reduceEq, Int.reduceNe, Nat.reduceLeDiff, one, Value.cells, Int.reduceLE, Int.reduceLT, Int.reduceToNat, add_mk, reduceCtorEq, List.mem_range'_1, true_and, and_true, and_false, false_and, Nat.reduceLT, Nat.reduceLeDiff, tyF, s1, s2]
    refine draw_preS 125 13 Lr 13 [[], [], [1], [], [1, 2, 3], [0, 1, 2, 3, 4], [], [6], [0, 1, 2, 3, 4, 5, 6, 7], [], [9], [], [9, 10, 11], [0, 1, 2, 3, 4, 5, 6, 7, 8, 9, 10, 11, 12], [0, 1, 2, 3, 4, 5, 6, 7, 8, 9, 10, 11, 12, 13], [0, 1, 2, 3, 4, 5, 6, 7, 8, 9, 10, 11, 12, 13, 14]] [(0, HoldsS w14.heap.size 125 13 Lr 0), (5, HoldsS w14.heap.size 125 13 Lr k), (7, OneS 125 (reB burst (p, nb))), (8, HoldsS w14.heap.size 125 13 Lr (k + 1)), (13, HoldsS w14.heap.size 125 13 Lr (S.length + 1))] mixed (by kernel_rfl) (by kernel_rfl) ?_ ?_
    · intro y hy
      simp only [List.mem_cons, List.not_mem_nil, or_false] at hy
      rcases hy with rfl | rfl | rfl | rfl | rfl
      · exact .inl ⟨_, rfl⟩
      · exact .inl ⟨_, rfl⟩
      · exact .inr ⟨_, hle, rfl⟩
      · exact .inl ⟨_, rfl⟩
      · exact .inl ⟨_, rfl⟩
    simp (config := {maxSteps := 1000000}) only [↓zvN, zvU, ↓zqD, ↓up_apply, ↓hv_apply, ↓upO_some, ↓upO_none, ↓ev_tmp, ↓ev_const, ↓ev_func, ↓ev_global, init, Nat.reduceEqDiff, Nat.reduceAdd, Nat.reduceMul, Nat.reduceSub, ↓reduceIte, Int.reduceEq, Int.reduceNe, Nat.reduceLeDiff, one, Value.cells, Int.reduceLE, Int.reduceLT, Int.reduceToNat, add_mk, reduceCtorEq, List.mem_range'_1, true_and, and_true, and_false, false_and, Nat.reduceLT, Nat.reduceLeDiff, tyF, s1, s2, c60, lb6, h10, hkI2, hkl, hlc2, hkc, g0', Int.toNat_natCast]
    refine ⟨fun wa ha => ?_, ?_⟩
    · refine bslice0 Try.underlying75 reBE ?_
      have hma := more_alloc wa (.cells #[] 125)
      have hza := ha.below.size
      have hoa := Own.made (B := w14.heap.size) wa 125 13 #[] 0 rfl (by simp [maxLen]) hza
      simp (config := {maxSteps := 1000000}) only [↓zvN, zvU, ↓zqD, ↓up_apply, ↓hv_apply, ↓upO_some, ↓upO_none, ↓ev_tmp, ↓ev_const, ↓ev_func, ↓ev_global, init, Nat.reduceEqDiff, Nat.reduceAdd, Nat.reduceMul, Nat.reduceSub, ↓reduceIte, Int.reduceEq, Int.reduceNe, Nat.reduceLeDiff, one, Value.cells, Int.reduceLE, Int.reduceLT, Int.reduceToNat, add_mk, reduceCtorEq, List.mem_range'_1, true_and, and_true, and_false, false_and, Nat.reduceLT, Nat.reduceLeDiff, tyF]
      exact ⟨PreS.of_more hma hza, some ⟨wa.heap.size, 0, none⟩, 0, rfl, by rw [← hL0]; exact hoa, fun _ => rfl⟩
    rintro _ ⟨wa, ha, A0, c0, rfl, ho0, hc0⟩
    rw [stop1]
    simp (config := {maxSteps := 1000000}) only [↓zvN, zvU, ↓zqD, ↓up_apply, ↓hv_apply, ↓upO_some, ↓upO_none, ↓ev_tmp, ↓ev_const, ↓ev_func, ↓ev_global, init, Nat.reduceEqDiff, Nat.reduceAdd, Nat.reduceMul, Nat.reduceSub, ↓reduceIte, Int.reduceEq, Int.reduceNe, Nat.reduceLeDiff, one, Value.cells, Int.reduceLE, Int.reduceLT, Int.reduceToNat, add_mk, reduceCtorEq, List.mem_range'_1, true_and, and_true, and_false, false_and, Nat.reduceLT, Nat.reduceLeDiff, tyF, s1, s2, c60, lb6, h10, hkI2, hkl, hlc2, hkc, g0', Int.toNat_natCast]
    refine ⟨fun wb hb hh => ?_, ?_⟩
    · obtain ⟨A', c', hv, ho', hc'⟩ := hh
      injection hv with e1 _ e2
      subst e1 e2
      refine app_preS (m := k) (xs := []) (news := (S.take k).flatMap (reB burst)) (L := Lr) Try.underlying75 reBE rfl (by omega) (by rw [hL0]; exact ho') (fun _ => hc' rfl) ((hA6.more (hb.more rfl)).rowTake k) hlt (fun u hu => by obtain ⟨e, _, he⟩ := List.mem_flatMap.1 hu; exact reB_one _ e u he) (by simp only [maxLen]; omega) (by omega) hb.below.size (by rw [List.nil_append, Nat.zero_add]; exact hLk) ?_
      intro A9 c9 w99 ho9 hc9 hp9' _ _
      simp only [Nat.zero_add, List.nil_append] at ho9 hc9 ⊢
      simp (config := {maxSteps := 1000000}) only [↓zvN, zvU, ↓zqD, ↓up_apply, ↓hv_apply, ↓upO_some, ↓upO_none, ↓ev_tmp, ↓ev_const, ↓ev_func, ↓ev_global, init, Nat.reduceEqDiff, Nat.reduceAdd, Nat.reduceMul, Nat.reduceSub, ↓reduceIte, Int.reduceEq, Int.reduceNe, Nat.reduceLeDiff, one, Value.cells, Int.reduceLE, Int.reduceLT, Int.reduceToNat, add_mk, reduceCtorEq, List.mem_range'_1, true_and, and_true, and_false, false_and, Nat.reduceLT, Nat.reduceLeDiff, tyF]
      exact ⟨hp9', A9, c9, rfl, by rw [← hLk]; exact ho9, hc9⟩
    rintro _ ⟨wb, hb, _, A1, c1', rfl, ho1, hc1⟩
    rw [stop1]
    simp (config := {maxSteps := 1000000}) only [↓zvN, zvU, ↓zqD, ↓up_apply, ↓hv_apply, ↓upO_some, ↓upO_none, ↓ev_tmp, ↓ev_const, ↓ev_func, ↓ev_global, init, Nat.reduceEqDiff, Nat.reduceAdd, Nat.reduceMul, Nat.reduceSub, ↓reduceIte, Int.reduceEq, Int.reduceNe, Nat.reduceLeDiff, one, Value.cells, Int.reduceLE, Int.reduceLT, Int.reduceToNat, add_mk, reduceCtorEq, List.mem_range'_1, true_and, and_true, and_false, false_and, Nat.reduceLT, Nat.reduceLeDiff, tyF, s1, s2, c60, lb6, h10, hkI2, hkl, hlc2, hkc, g0', r6, lr6, Int.toNat_natCast]
    refine ⟨fun wc hc => ?_, ?_⟩
    · refine bslice1 Try.underlying75 reBE (by omega) (by omega) hle ?_
      have hmc := more_alloc wc (.cells (reB burst (p, nb)).toArray 125)
      have hbc := Blk.new wc 125 (reB burst (p, nb)).toArray
      rw [List.toList_toArray] at hbc
      simp (config := {maxSteps := 1000000}) only [↓zvN, zvU, ↓zqD, ↓up_apply, ↓hv_apply, ↓upO_some, ↓upO_none, ↓ev_tmp, ↓ev_const, ↓ev_func, ↓ev_global, init, Nat.reduceEqDiff, Nat.reduceAdd, Nat.reduceMul, Nat.reduceSub, ↓reduceIte, Int.reduceEq, Int.reduceNe, Nat.reduceLeDiff, one, Value.cells, Int.reduceLE, Int.reduceLT, Int.reduceToNat, add_mk, reduceCtorEq, List.mem_range'_1, true_and, and_true, and_false, false_and, Nat.reduceLT, Nat.reduceLeDiff, tyF]
      exact ⟨PreS.of_more hmc hc.below.size, wc.heap.size, rfl, hbc⟩
    rintro _ ⟨wc, hc, _, q, rfl, hq0⟩
    rw [stop1]
    simp (config := {maxSteps := 1000000}) only [↓zvN, zvU, ↓zqD, ↓up_apply, ↓hv_apply, ↓upO_some, ↓upO_none, ↓ev_tmp, ↓ev_const, ↓ev_func, ↓ev_global, init, Nat.reduceEqDiff, Nat.reduceAdd, Nat.reduceMul, Nat.reduceSub, ↓reduceIte, Int.reduceEq, Int.reduceNe, Nat.reduceLeDiff, one, Value.cells, Int.reduceLE, Int.reduceLT, Int.reduceToNat, add_mk, reduceCtorEq, List.mem_range'_1, true_and, and_true, and_false, false_and, Nat.reduceLT, Nat.reduceLeDiff, tyF, s1, s2, c60, lb6, h10, hkI2, hkl, hlc2, hkc, g0', r6, lr6, Int.toNat_natCast]
    refine ⟨fun wd hd hx => ?_, ?_⟩
    · obtain ⟨_, hh5, hh7⟩ := hx
      obtain ⟨A', c', hv, ho', hc'⟩ := hh5
      injection hv with e1 _ e2
      subst e1 e2
      obtain ⟨q', hv, hbq⟩ := hh7
      injection hv with e1
      injection e1 with e1
      injection e1 with e1
      subst e1
      refine app_preS (m := 1) (xs := (S.take k).flatMap (reB burst)) (news := reB burst (p, nb)) (L := Lr) Try.underlying75 reBE rfl (by omega) (by rw [hLk]; exact ho') hc' hbq.cs (by rw [hle]) (reB_one _ _) (by simp only [maxLen]; omega) (by omega) hd.below.size hLe ?_
      intro A9 c9 w99 ho9 hc9 hp9' _ _
      simp (config := {maxSteps := 1000000}) only [↓zvN, zvU, ↓zqD, ↓up_apply, ↓hv_apply, ↓upO_some, ↓upO_none, ↓ev_tmp, ↓ev_const, ↓ev_func, ↓ev_global, init, Nat.reduceEqDiff, Nat.reduceAdd, Nat.reduceMul, Nat.reduceSub, ↓reduceIte, Int.reduceEq, Int.reduceNe, Nat.reduceLeDiff, one, Value.cells, Int.reduceLE, Int.reduceLT, Int.reduceToNat, add_mk, reduceCtorEq, List.mem_range'_1, true_and, and_true, and_false, false_and, Nat.reduceLT, Nat.reduceLeDiff, tyF]
      exact ⟨hp9', A9, c9, rfl, by rw [← hLe]; exact ho9, hc9⟩
    rintro _ ⟨wd, hd, _, A3', c3, rfl, ho3, hc3⟩
    rw [stop1]
    simp (config := {maxSteps := 1000000}) only [↓zvN, zvU, ↓zqD, ↓up_apply, ↓hv_apply, ↓upO_some, ↓upO_none, ↓ev_tmp, ↓ev_const, ↓ev_func, ↓ev_global, init, Nat.reduceEqDiff, Nat.reduceAdd, Nat.reduceMul, Nat.reduceSub, ↓reduceIte, Int.reduceEq, Int.reduceNe, Nat.reduceLeDiff, one, Value.cells, Int.reduceLE, Int.reduceLT, Int.reduceToNat, add_mk, reduceCtorEq, List.mem_range'_1, true_and, and_true, and_false, false_and, Nat.reduceLT, Nat.reduceLeDiff, tyF, s1, s2, c60, lb6, h10, hkI2, hkl, hlc2, hkc, g0', r6, lr6, Int.toNat_natCast]
    intro we he hx
    obtain ⟨_, _, _, hh8⟩ := hx
    obtain ⟨A', c', hv, ho', hc'⟩ := hh8
    injection hv with e1 _ e2
    subst e1 e2
    have hew := he.more rfl
    refine app_preS (m := S.length - k) (xs := (S.take k).flatMap (reB burst) ++ reB burst (p, nb)) (news := (S.drop k).flatMap (reB burst)) (L := Lr) Try.underlying75 reBE rfl (by omega) (by rw [hLe]; exact ho') hc' ((hA6.more hew).rowDrop (s := 13) hO2.lens hlc2 k) hld (fun u hu => by obtain ⟨e, _, he⟩ := List.mem_flatMap.1 hu; exact reB_one _ e u he) (by simp only [maxLen]; omega) (by omega) he.below.size (by rw [show k + 1 + (S.length - k) = S.length + 1 by omega]; exact hLn) ?_
    intro A9 c9 w99 ho9 hc9 hp9' _ _
    have hm99 : More w14 w99 := (he.trans hp9').more rfl
    simp (config := {maxSteps := 1000000}) only [↓zvN, zvU, ↓up_apply, ↓hv_apply, ↓upO_some, ↓upO_none, ↓ev_tmp, ↓ev_const, ↓ev_func, ↓ev_global, init, Nat.reduceEqDiff, Nat.reduceAdd, Nat.reduceMul, Nat.reduceSub, ↓reduceIte, Int.reduceEq, Int.reduceNe, Nat.reduceLeDiff, one, Value.cells, Int.reduceLE, Int.reduceLT, Int.reduceToNat, add_mk, reduceCtorEq, List.mem_range'_1, true_and, and_true, and_false, false_and, Nat.reduceLT, Nat.reduceLeDiff, tyF, s1, s2]
    have hs46 := (hm414).size
    have hge9 : ∀ a, A9 = some a → w.heap.size + 3 ≤ a.block := fun a ha => by
      have := (ho9.atB_ge ⟨a, ha, rfl⟩).1
      omega
    refine st_cell (hb6.more hm99) (by simp [rbox]) rfl fun w97 k1 k2 => ?_
    rw [s2_undef]
    replace k2 : Blk w97 w.heap.size 77 (rbox A9 (k + 1 + (S.length - k)) c9 room term rate burst) := k2
    have v97 := k2.all_eq 5 rfl
    simp (config := {maxSteps := 1000000}) only [↓zvN, zvU, ↓up_apply, ↓hv_apply, ↓upO_some, ↓upO_none, ↓ev_tmp, ↓ev_const, ↓ev_func, ↓ev_global, init, Nat.reduceEqDiff, Nat.reduceAdd, Nat.reduceMul, Nat.reduceSub, ↓reduceIte, Int.reduceEq, Int.reduceNe, Nat.reduceLeDiff, one, Value.cells, Int.reduceLE, Int.reduceLT, Int.reduceToNat, add_mk, reduceCtorEq, List.mem_range'_1, true_and, and_true, and_false, false_and, Nat.reduceLT, Nat.reduceLeDiff, tyF, v97, s1, s2]
    refine st_all (k1.blk (hb33.more (hm4.trans ((hm414).trans hm99))) (by omega)) rfl rfl (by simpa using rbox_one A9 (k + 1 + (S.length - k)) c9 room term rate burst) fun w98 q1 q2 => ?_
    rw [s2_undef]
    rw [List.toList_toArray] at q2
    have v98 := q2.all_eq 5 rfl
    simp (config := {maxSteps := 1000000}) only [↓zvN, zvU, ↓up_apply, ↓hv_apply, ↓upO_some, ↓upO_none, ↓ev_tmp, ↓ev_const, ↓ev_func, ↓ev_global, init, Nat.reduceEqDiff, Nat.reduceAdd, Nat.reduceMul, Nat.reduceSub, ↓reduceIte, Int.reduceEq, Int.reduceNe, Nat.reduceLeDiff, one, Value.cells, Int.reduceLE, Int.reduceLT, Int.reduceToNat, add_mk, reduceCtorEq, List.mem_range'_1, true_and, and_true, and_false, false_and, Nat.reduceLT, Nat.reduceLeDiff, tyF, v98, s1, s2]
    have hln : (S.take k ++ (p, nb) :: S.drop k).length = k + 1 + (S.length - k) := by rw [List.length_append, List.length_cons, List.length_take, List.length_drop]; omega
    have hrow : (S.take k ++ (p, nb) :: S.drop k).flatMap (reB burst) = (S.take k).flatMap (reB burst) ++ reB burst (p, nb) ++ (S.drop k).flatMap (reB burst) := by simp
    exact ⟨A9, c9, by rw [hputl, hln]; rfl, by rw [hputl, hln]; exact ho9.le, by rw [hputl, hrow]; exact q1.cs (k1.cs ho9.cs (fun a ha => by have := hge9 a ha; omega)) (fun a ha => by have := hge9 a ha; omega), fun a ha => by have := hge9 a ha; omega, more_but (more_but (hm13.trans (hm4.trans ((hm414).trans hm99))) (But.of_wr k1) (Nat.le_refl _)) (But.of_wr q1) (by omega)⟩
  have hkI : (k : Int) < (S.length : Int) := by omega
  obtain ⟨e, he⟩ := row_nat S k hkn
  have heo := hO2 e (List.mem_of_getElem? he)
  obtain ⟨a, hA2e⟩ := hA13.some_of (by rw [row_len (s := 13) S hO2.lens]; omega)
  rw [hA2e] at hA13 c130
  have la := Cs.lt' hA13 (by rw [row_len (s := 13) S hO2.lens]; omega)
  have g0 : (0 : Int) ≤ (k : Int) := by omega
  have rd : ∀ K : Value → Prop, ldRow 8 (a.add (k * 13)) w13 K = K (.agg e.1.cells.toArray) := fun K => by
    have h8 : e.1.cells.length = 8 := by simp [PrefM.cells, heo]
    refine ldRow_eq h8 (fun j hj => ?_) K
    rw [hA13.elemA (s := 13) hO2.lens he (by omega), reB, List.getElem?_append_left (by omega)]
  simp (config := {maxSteps := 1000000}) only [↓zvN, zvU, ↓up_apply, ↓hv_apply, ↓upO_some, ↓upO_none, ↓ev_tmp, ↓ev_const, ↓ev_func, ↓ev_global, init, Nat.reduceEqDiff, Nat.reduceAdd, Nat.reduceMul, Nat.reduceSub, ↓reduceIte, Int.reduceEq, Int.reduceNe, Nat.reduceLeDiff, one, Value.cells, Int.reduceLE, Int.reduceLT, Int.reduceToNat, add_mk, reduceCtorEq, List.mem_range'_1, true_and, and_true, and_false, false_and, Nat.reduceLT, Nat.reduceLeDiff, tyF, h10, s1, s2]
  refine draw_seen 13 [[], [], [1], [1, 2], [0, 1, 2, 3], [0, 1, 2, 3, 4], [0, 1, 2, 3, 4, 5], [0, 1, 2, 3, 4, 5, 6], [0, 1, 2, 3, 4, 5], [0, 1, 2, 3, 4, 5, 6, 7, 8], [0, 1, 2, 3, 4, 5, 6, 7, 8, 9], [0, 1, 2, 3, 4, 5, 6, 7, 8, 9, 10], [0, 1, 2, 3, 4, 5], [0, 1, 2, 3, 4, 5, 6, 7, 8, 9, 10, 11, 12], [0, 1, 2, 3, 4, 5, 6, 7, 8, 9, 10, 11, 12, 13]] (RV.look [(13, RV.IsV (.bool (decide (plt e.1 p))))]) mixed (by kernel_rfl) (by kernel_rfl) (look_keeps _ (by simp [keepsV])) ?_
  simp (config := {maxSteps := 1000000}) only [↓zvN, zvU, ↓zqD, ↓up_apply, ↓hv_apply, ↓upO_some, ↓upO_none, ↓ev_tmp, ↓ev_const, ↓ev_func, ↓ev_global, init, Nat.reduceEqDiff, Nat.reduceAdd, Nat.reduceMul, Nat.reduceSub, ↓reduceIte, Int.reduceEq, Int.reduceNe, Nat.reduceLeDiff, one, Value.cells, Int.reduceLE, Int.reduceLT, Int.reduceToNat, add_mk, reduceCtorEq, List.mem_range'_1, true_and, and_true, and_false, false_and, Nat.reduceLT, Nat.reduceLeDiff, tyF, h10, hkI, g0, addr_zero, rd, la, q13, lp13, lb13, c130, s1, s2, Int.toNat_natCast]
  intro w14' hm14'
  refine call_ok Try.call12 (ref_less w14' e.1 p heo hp) ?_
  rintro _ w14 ⟨rfl, hm14⟩
  replace hm14 := hm14'.trans hm14
  by_cases hpe : plt e.1 p
  · have hd : decide (plt e.1 p) = true := decide_eq_true hpe
    simp (config := {maxSteps := 1000000}) only [↓zvN, zvU, ↓up_apply, ↓hv_apply, ↓upO_some, ↓upO_none, ↓ev_tmp, ↓ev_const, ↓ev_func, ↓ev_global, init, Nat.reduceEqDiff, Nat.reduceAdd, Nat.reduceMul, Nat.reduceSub, ↓reduceIte, Int.reduceEq, Int.reduceNe, Nat.reduceLeDiff, one, Value.cells, Int.reduceLE, Int.reduceLT, Int.reduceToNat, add_mk, reduceCtorEq, List.mem_range'_1, true_and, and_true, and_false, false_and, Nat.reduceLT, Nat.reduceLeDiff, tyF, hd, p_nil, h10, ek]
    refine ⟨⟨?_, k + 1, rfl, by omega, ?_, hm13'.trans hm14⟩, by simp only [numOf]; omega⟩
    · repeat (first | exact Same.hv _ _ _ | refine Same.up (by simp) ?_)
    · intro d hd'
      rw [List.take_add_one, he, List.mem_append] at hd'
      rcases hd' with h | h
      · exact hall d h
      · simp at h; subst h; exact hd
  · have hd : decide (plt e.1 p) = false := decide_eq_false hpe
    simp (config := {maxSteps := 1000000}) only [↓zvN, zvU, ↓up_apply, ↓hv_apply, ↓upO_some, ↓upO_none, ↓ev_tmp, ↓ev_const, ↓ev_func, ↓ev_global, init, Nat.reduceEqDiff, Nat.reduceAdd, Nat.reduceMul, Nat.reduceSub, ↓reduceIte, Int.reduceEq, Int.reduceNe, Nat.reduceLeDiff, one, Value.cells, Int.reduceLE, Int.reduceLT, Int.reduceToNat, add_mk, reduceCtorEq, List.mem_range'_1, true_and, and_true, and_false, false_and, Nat.reduceLT, Nat.reduceLeDiff, tyF, hd, p_nil, h10, ek]
    have hstop : k = S.length ∨ ∃ e : PrefM × BoxE, S[k]? = some e ∧ decide (plt e.1 p) = false := .inr ⟨e, he, hd⟩
    have hm414 := hm413.trans hm14
    have hm1214 := hm13'.trans hm14
    obtain ⟨htw, hdw⟩ := tw_specB (f := fun e : PrefM × BoxE => decide (plt e.1 p)) hall hstop
    have hputl : putL S p nb = S.take k ++ (p, nb) :: S.drop k := by unfold putL; rw [if_neg hk, htw, hdw]
    have hOt : ∀ m ∈ S.take k, (reB burst m).length = 13 := fun m hm => hO2.lens m (List.mem_of_mem_take hm)
    have hOd : ∀ m ∈ S.drop k, (reB burst m).length = 13 := fun m hm => hO2.lens m (List.mem_of_mem_drop hm)
    have hlt : ((S.take k).flatMap (reB burst)).length = k * 13 := by rw [row_len (s := 13) _ hOt, List.length_take, Nat.min_eq_left hkl]
    have hld : ((S.drop k).flatMap (reB burst)).length = (S.length - k) * 13 := by rw [row_len (s := 13) _ hOd, List.length_drop]
    have hle : (reB burst (p, nb)).length = 13 := reB_len hp
    obtain ⟨Lr, hLr⟩ : ∃ Lr, (S.take k).flatMap (reB burst) ++ reB burst (p, nb) ++ (S.drop k).flatMap (reB burst) = Lr := ⟨_, rfl⟩
    have hL0 : [] = Lr.take (0 * 13) := by simp
    have hLk : (S.take k).flatMap (reB burst) = Lr.take (k * 13) := by rw [← hLr, List.append_assoc, List.take_left' hlt]
    have hLe : (S.take k).flatMap (reB burst) ++ reB burst (p, nb) = Lr.take ((k + 1) * 13) := by rw [← hLr, List.take_left' (by rw [List.length_append, hlt, hle]; omega)]
    have hLn : (S.take k).flatMap (reB burst) ++ reB burst (p, nb) ++ (S.drop k).flatMap (reB burst) = Lr.take ((S.length + 1) * 13) := by rw [hLr, List.take_of_length_le]; rw [← hLr, List.length_append, List.length_append, hlt, hle, hld]; omega
    have hb6 := hb4.more hm414
    have c60 : w14.cell? ⟨w.heap.size, 0, none⟩ = some (.slice A2 S.length c2) := by rw [hb6.cell]; rfl
    have lb6 := hb6.lt
    have hA6 := (hA3.more hm4).more hm414
    have hkc : k ≤ c2 := Nat.le_trans hkl hlc2
    have hkI2 : (k : Int) ≤ (S.length : Int) := by omega
    have g0' : (0 : Int) ≤ (k : Int) := by omega
    have r6 := (r2.more hm1214).all_eq 13 hle
    have lr6 := (r2.more hm1214).lt
    try simp (config := {maxSteps := 1000000}) only [↓zvN, zvU, ↓up_apply, ↓hv_apply, ↓upO_some, ↓upO_none, ↓ev_tmp, ↓ev_const, ↓ev_func, ↓ev_global, init, Nat.reduceEqDiff, Nat.reduceAdd, Nat.reduceMul, Nat.reduceSub, ↓reduceIte, Int.reduceEq, Int.reduceNe, Nat.reduceLeDiff, one, Value.cells, Int.reduceLE, Int.reduceLT, Int.reduceToNat, add_mk, reduceCtorEq, List.mem_range'_1, true_and, and_true, and_false, false_and, Nat.reduceLT, Nat.reduceLeDiff, tyF, s1, s2]
    refine draw_preS 125 13 Lr 13 [[], [], [1], [], [1, 2, 3], [0, 1, 2, 3, 4], [], [6], [0, 1, 2, 3, 4, 5, 6, 7], [], [9], [], [9, 10, 11], [0, 1, 2, 3, 4, 5, 6, 7, 8, 9, 10, 11, 12], [0, 1, 2, 3, 4, 5, 6, 7, 8, 9, 10, 11, 12, 13], [0, 1, 2, 3, 4, 5, 6, 7, 8, 9, 10, 11, 12, 13, 14]] [(0, HoldsS w14.heap.size 125 13 Lr 0), (5, HoldsS w14.heap.size 125 13 Lr k), (7, OneS 125 (reB burst (p, nb))), (8, HoldsS w14.heap.size 125 13 Lr (k + 1)), (13, HoldsS w14.heap.size 125 13 Lr (S.length + 1))] mixed (by kernel_rfl) (by kernel_rfl) ?_ ?_
    · intro y hy
      simp only [List.mem_cons, List.not_mem_nil, or_false] at hy
      rcases hy with rfl | rfl | rfl | rfl | rfl
      · exact .inl ⟨_, rfl⟩
      · exact .inl ⟨_, rfl⟩
      · exact .inr ⟨_, hle, rfl⟩
      · exact .inl ⟨_, rfl⟩
      · exact .inl ⟨_, rfl⟩
    simp (config := {maxSteps := 1000000}) only [↓zvN, zvU, ↓zqD, ↓up_apply, ↓hv_apply, ↓upO_some, ↓upO_none, ↓ev_tmp, ↓ev_const, ↓ev_func, ↓ev_global, init, Nat.reduceEqDiff, Nat.reduceAdd, Nat.reduceMul, Nat.reduceSub, ↓reduceIte, Int.reduceEq, Int.reduceNe, Nat.reduceLeDiff, one, Value.cells, Int.reduceLE, Int.reduceLT, Int.reduceToNat, add_mk, reduceCtorEq, List.mem_range'_1, true_and, and_true, and_false, false_and, Nat.reduceLT, Nat.reduceLeDiff, tyF, s1, s2, c60, lb6, h10, hkI2, hkl, hlc2, hkc, g0', Int.toNat_natCast]
    refine ⟨fun wa ha => ?_, ?_⟩
    · refine bslice0 Try.underlying75 reBE ?_
      have hma := more_alloc wa (.cells #[] 125)
      have hza := ha.below.size
      have hoa := Own.made (B := w14.heap.size) wa 125 13 #[] 0 rfl (by simp [maxLen]) hza
      simp (config := {maxSteps := 1000000}) only [↓zvN, zvU, ↓zqD, ↓up_apply, ↓hv_apply, ↓upO_some, ↓upO_none, ↓ev_tmp, ↓ev_const, ↓ev_func, ↓ev_global, init, Nat.reduceEqDiff, Nat.reduceAdd, Nat.reduceMul, Nat.reduceSub, ↓reduceIte, Int.reduceEq, Int.reduceNe, Nat.reduceLeDiff, one, Value.cells, Int.reduceLE, Int.reduceLT, Int.reduceToNat, add_mk, reduceCtorEq, List.mem_range'_1, true_and, and_true, and_false, false_and, Nat.reduceLT, Nat.reduceLeDiff, tyF]
      exact ⟨PreS.of_more hma hza, some ⟨wa.heap.size, 0, none⟩, 0, rfl, by rw [← hL0]; exact hoa, fun _ => rfl⟩
    rintro _ ⟨wa, ha, A0, c0, rfl, ho0, hc0⟩
    rw [stop1]
    simp (config := {maxSteps := 1000000}) only [↓zvN, zvU, ↓zqD, ↓up_apply, ↓hv_apply, ↓upO_some, ↓upO_none, ↓ev_tmp, ↓ev_const, ↓ev_func, ↓ev_global, init, Nat.reduceEqDiff, Nat.reduceAdd, Nat.reduceMul, Nat.reduceSub, ↓reduceIte, Int.reduceEq, Int.reduceNe, Nat.reduceLeDiff, one, Value.cells, Int.reduceLE, Int.reduceLT, Int.reduceToNat, add_mk, reduceCtorEq, List.mem_range'_1, true_and, and_true, and_false, false_and, Nat.reduceLT, Nat.reduceLeDiff, tyF, s1, s2, c60, lb6, h10, hkI2, hkl, hlc2, hkc, g0', Int.toNat_natCast]
    refine ⟨fun wb hb hh => ?_, ?_⟩
    · obtain ⟨A', c', hv, ho', hc'⟩ := hh
      injection hv with e1 _ e2
      subst e1 e2
      refine app_preS (m := k) (xs := []) (news := (S.take k).flatMap (reB burst)) (L := Lr) Try.underlying75 reBE rfl (by omega) (by rw [hL0]; exact ho') (fun _ => hc' rfl) ((hA6.more (hb.more rfl)).rowTake k) hlt (fun u hu => by obtain ⟨e, _, he⟩ := List.mem_flatMap.1 hu; exact reB_one _ e u he) (by simp only [maxLen]; omega) (by omega) hb.below.size (by rw [List.nil_append, Nat.zero_add]; exact hLk) ?_
      intro A9 c9 w99 ho9 hc9 hp9' _ _
      simp only [Nat.zero_add, List.nil_append] at ho9 hc9 ⊢
      simp (config := {maxSteps := 1000000}) only [↓zvN, zvU, ↓zqD, ↓up_apply, ↓hv_apply, ↓upO_some, ↓upO_none, ↓ev_tmp, ↓ev_const, ↓ev_func, ↓ev_global, init, Nat.reduceEqDiff, Nat.reduceAdd, Nat.reduceMul, Nat.reduceSub, ↓reduceIte, Int.reduceEq, Int.reduceNe, Nat.reduceLeDiff, one, Value.cells, Int.reduceLE, Int.reduceLT, Int.reduceToNat, add_mk, reduceCtorEq, List.mem_range'_1, true_and, and_true, and_false, false_and, Nat.reduceLT, Nat.reduceLeDiff, tyF]
      exact ⟨hp9', A9, c9, rfl, by rw [← hLk]; exact ho9, hc9⟩
    rintro _ ⟨wb, hb, _, A1, c1', rfl, ho1, hc1⟩
    rw [stop1]
    simp (config := {maxSteps := 1000000}) only [↓zvN, zvU, ↓zqD, ↓up_apply, ↓hv_apply, ↓upO_some, ↓upO_none, ↓ev_tmp, ↓ev_const, ↓ev_func, ↓ev_global, init, Nat.reduceEqDiff, Nat.reduceAdd, Nat.reduceMul, Nat.reduceSub, ↓reduceIte, Int.reduceEq, Int.reduceNe, Nat.reduceLeDiff, one, Value.cells, Int.reduceLE, Int.reduceLT, Int.reduceToNat, add_mk, reduceCtorEq, List.mem_range'_1, true_and, and_true, and_false, false_and, Nat.reduceLT, Nat.reduceLeDiff, tyF, s1, s2, c60, lb6, h10, hkI2, hkl, hlc2, hkc, g0', r6, lr6, Int.toNat_natCast]
    refine ⟨fun wc hc => ?_, ?_⟩
    · refine bslice1 Try.underlying75 reBE (by omega) (by omega) hle ?_
      have hmc := more_alloc wc (.cells (reB burst (p, nb)).toArray 125)
      have hbc := Blk.new wc 125 (reB burst (p, nb)).toArray
      rw [List.toList_toArray] at hbc
      simp (config := {maxSteps := 1000000}) only [↓zvN, zvU, ↓zqD, ↓up_apply, ↓hv_apply, ↓upO_some, ↓upO_none, ↓ev_tmp, ↓ev_const, ↓ev_func, ↓ev_global, init, Nat.reduceEqDiff, Nat.reduceAdd, Nat.reduceMul, Nat.reduceSub, ↓reduceIte, Int.reduceEq, Int.reduceNe, Nat.reduceLeDiff, one, Value.cells, Int.reduceLE, Int.reduceLT, Int.reduceToNat, add_mk, reduceCtorEq, List.mem_range'_1, true_and, and_true, and_false, false_and, Nat.reduceLT, Nat.reduceLeDiff, tyF]
      exact ⟨PreS.of_more hmc hc.below.size, wc.heap.size, rfl, hbc⟩
    rintro _ ⟨wc, hc, _, q, rfl, hq0⟩
    rw [stop1]
    simp (config := {maxSteps := 1000000}) only [↓zvN, zvU, ↓zqD, ↓up_apply, ↓hv_apply, ↓upO_some, ↓upO_none, ↓ev_tmp, ↓ev_const, ↓ev_func, ↓ev_global, init, Nat.reduceEqDiff, Nat.reduceAdd, Nat.reduceMul, Nat.reduceSub, ↓reduceIte, Int.reduceEq, Int.reduceNe, Nat.reduceLeDiff, one, Value.cells, Int.reduceLE, Int.reduceLT, Int.reduceToNat, add_mk, reduceCtorEq, List.mem_range'_1, true_and, and_true, and_false, false_and, Nat.reduceLT, Nat.reduceLeDiff, tyF, s1, s2, c60, lb6, h10, hkI2, hkl, hlc2, hkc, g0', r6, lr6, Int.toNat_natCast]
    refine ⟨fun wd hd hx => ?_, ?_⟩
    · obtain ⟨_, hh5, hh7⟩ := hx
      obtain ⟨A', c', hv, ho', hc'⟩ := hh5
      injection hv with e1 _ e2
      subst e1 e2
      obtain ⟨q', hv, hbq⟩ := hh7
      injection hv with e1
      injection e1 with e1
      injection e1 with e1
      subst e1
      refine app_preS (m := 1) (xs := (S.take k).flatMap (reB burst)) (news := reB burst (p, nb)) (L := Lr) Try.underlying75 reBE rfl (by omega) (by rw [hLk]; exact ho') hc' hbq.cs (by rw [hle]) (reB_one _ _) (by simp only [maxLen]; omega) (by omega) hd.below.size hLe ?_
      intro A9 c9 w99 ho9 hc9 hp9' _ _
      simp (config := {maxSteps := 1000000}) only [↓zvN, zvU, ↓zqD, ↓up_apply, ↓hv_apply, ↓upO_some, ↓upO_none, ↓ev_tmp, ↓ev_const, ↓ev_func, ↓ev_global, init, Nat.reduceEqDiff, Nat.reduceAdd, Nat.reduceMul, Nat.reduceSub, ↓reduceIte, Int.reduceEq, Int.reduceNe, Nat.reduceLeDiff, one, Value.cells, Int.reduceLE, Int.reduceLT, Int.reduceToNat, add_mk, reduceCtorEq, List.mem_range'_1, true_and, and_true, and_false, false_and, Nat.reduceLT, Nat.reduceLeDiff, tyF]
      exact ⟨hp9', A9, c9, rfl, by rw [← hLe]; exact ho9, hc9⟩
    rintro _ ⟨wd, hd, _, A3', c3, rfl, ho3, hc3⟩
    rw [stop1]
    simp (config := {maxSteps := 1000000}) only [↓zvN, zvU, ↓zqD, ↓up_apply, ↓hv_apply, ↓upO_some, ↓upO_none, ↓ev_tmp, ↓ev_const, ↓ev_func, ↓ev_global, init, Nat.reduceEqDiff, Nat.reduceAdd, Nat.reduceMul, Nat.reduceSub, ↓reduceIte, Int.reduceEq, Int.reduceNe, Nat.reduceLeDiff, one, Value.cells, Int.reduceLE, Int.reduceLT, Int.reduceToNat, add_mk, reduceCtorEq, List.mem_range'_1, true_and, and_true, and_false, false_and, Nat.reduceLT, Nat.reduceLeDiff, tyF, s1, s2, c60, lb6, h10, hkI2, hkl, hlc2, hkc, g0', r6, lr6, Int.toNat_natCast]
    intro we he hx
    obtain ⟨_, _, _, hh8⟩ := hx
    obtain ⟨A', c', hv, ho', hc'⟩ := hh8
    injection hv with e1 _ e2
    subst e1 e2
    have hew := he.more rfl
    refine app_preS (m := S.length - k) (xs := (S.take k).flatMap (reB burst) ++ reB burst (p, nb)) (news := (S.drop k).flatMap (reB burst)) (L := Lr) Try.underlying75 reBE rfl (by omega) (by rw [hLe]; exact ho') hc' ((hA6.more hew).rowDrop (s := 13) hO2.lens hlc2 k) hld (fun u hu => by obtain ⟨e, _, he⟩ := List.mem_flatMap.1 hu; exact reB_one _ e u he) (by simp only [maxLen]; omega) (by omega) he.below.size (by rw [show k + 1 + (S.length - k) = S.length + 1 by omega]; exact hLn) ?_
    intro A9 c9 w99 ho9 hc9 hp9' _ _
    have hm99 : More w14 w99 := (he.trans hp9').more rfl
    simp (config := {maxSteps := 1000000}) only [↓zvN, zvU, ↓up_apply, ↓hv_apply, ↓upO_some, ↓upO_none, ↓ev_tmp, ↓ev_const, ↓ev_func, ↓ev_global, init, Nat.reduceEqDiff, Nat.reduceAdd, Nat.reduceMul, Nat.reduceSub, ↓reduceIte, Int.reduceEq, Int.reduceNe, Nat.reduceLeDiff, one, Value.cells, Int.reduceLE, Int.reduceLT, Int.reduceToNat, add_mk, reduceCtorEq, List.mem_range'_1, true_and, and_true, and_false, false_and, Nat.reduceLT, Nat.reduceLeDiff, tyF, s1, s2]
    have hs46 := (hm414).size
    have hge9 : ∀ a, A9 = some a → w.heap.size + 3 ≤ a.block := fun a ha => by
      have := (ho9.atB_ge ⟨a, ha, rfl⟩).1
      omega
    refine st_cell (hb6.more hm99) (by simp [rbox]) rfl fun w97 k1 k2 => ?_
    rw [s2_undef]
    replace k2 : Blk w97 w.heap.size 77 (rbox A9 (k + 1 + (S.length - k)) c9 room term rate burst) := k2
    have v97 := k2.all_eq 5 rfl
    simp (config := {maxSteps := 1000000}) only [↓zvN, zvU, ↓up_apply, ↓hv_apply, ↓upO_some, ↓upO_none, ↓ev_tmp, ↓ev_const, ↓ev_func, ↓ev_global, init, Nat.reduceEqDiff, Nat.reduceAdd, Nat.reduceMul, Nat.reduceSub, ↓reduceIte, Int.reduceEq, Int.reduceNe, Nat.reduceLeDiff, one, Value.cells, Int.reduceLE, Int.reduceLT, Int.reduceToNat, add_mk, reduceCtorEq, List.mem_range'_1, true_and, and_true, and_false, false_and, Nat.reduceLT, Nat.reduceLeDiff, tyF, v97, s1, s2]
    refine st_all (k1.blk (hb33.more (hm4.trans ((hm414).trans hm99))) (by omega)) rfl rfl (by simpa using rbox_one A9 (k + 1 + (S.length - k)) c9 room term rate burst) fun w98 q1 q2 => ?_
    rw [s2_undef]
    rw [List.toList_toArray] at q2
    have v98 := q2.all_eq 5 rfl
    simp (config := {maxSteps := 1000000}) only [↓zvN, zvU, ↓up_apply, ↓hv_apply, ↓upO_some, ↓upO_none, ↓ev_tmp, ↓ev_const, ↓ev_func, ↓ev_global, init, Nat.reduceEqDiff, Nat.reduceAdd, Nat.reduceMul, Nat.reduceSub, ↓reduceIte, Int.reduceEq, Int.reduceNe, Nat.reduceLeDiff, one, Value.cells, Int.reduceLE, Int.reduceLT, Int.reduceToNat, add_mk, reduceCtorEq, List.mem_range'_1, true_and, and_true, and_false, false_and, Nat.reduceLT, Nat.reduceLeDiff, tyF, v98, s1, s2]
    have hln : (S.take k ++ (p, nb) :: S.drop k).length = k + 1 + (S.length - k) := by rw [List.length_append, List.length_cons, List.length_take, List.length_drop]; omega
    have hrow : (S.take k ++ (p, nb) :: S.drop k).flatMap (reB burst) = (S.take k).flatMap (reB burst) ++ reB burst (p, nb) ++ (S.drop k).flatMap (reB burst) := by simp
    exact ⟨A9, c9, by rw [hputl, hln]; rfl, by rw [hputl, hln]; exact ho9.le, by rw [hputl, hrow]; exact q1.cs (k1.cs ho9.cs (fun a ha => by have := hge9 a ha; omega)) (fun a ha => by have := hge9 a ha; omega), fun a ha => by have := hge9 a ha; omega, more_but (more_but (hm13.trans (hm4.trans ((hm414).trans hm99))) (But.of_wr k1) (Nat.le_refl _)) (But.of_wr q1) (by omega)⟩
end Go.Proofs.Ytimhcjakpdebjaa
