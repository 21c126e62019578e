/-
  Layer 22: the document's box: Take.
-/
import Derived.Test.YtimhcjakpdebjaaRef22D
import Derived.Test.YtimhcjakpdebjaaLineX
namespace Go.Proofs.Ytimhcjakpdebjaa
open Go Go.RowKit Go.Proofs.RV
set_option linter.unusedSimpArgs false
set_option linter.unusedVariables false
set_option maxRecDepth 10000
set_option maxHeartbeats 4000000

theorem take_splice : ∀ (vs xs : List Value) (i N : Nat), (splice xs i vs).take N = splice (xs.take N) i vs
  | [], xs, i, N => rfl
  | v :: r, xs, i, N => by rw [splice, splice, take_splice r, List.take_set]
theorem Own.stR {w : World} {B s m : Nat} {e : TypeId} {n c i : Nat} {a : Addr} {xs : List Value} {vs : Array Value} {K : World → Prop} (h : Own w B e s (some a) n c xs) (hi : i + m ≤ n * s) (hm : vs.size = m) (hv : ∀ u ∈ vs.toList, u.oneCell' = true)
    (hK : ∀ w', Wr a.block w w' → B ≤ a.block → Own w' B e s (some a) n c (splice xs i vs.toList) → K w') : stRow m vs (a.add i) w K := by
  obtain ⟨h1, h2⟩ := h
  rcases h2 with ⟨hh, _⟩ | ⟨g, cap, cur, hh, hB, hg, hnc, hmx, hs, ht⟩
  · cases hh
  · simp only [Value.slice.injEq, Option.some.injEq] at hh
    obtain ⟨rfl, -, rfl⟩ := hh
    have hb : Blk w g e cur.toList := by unfold Blk; simpa using hg
    rw [add_mk, Nat.zero_add]
    have hle : n * s ≤ c * s := Nat.mul_le_mul_right _ hnc
    refine st_row hb hm (by simp only [Array.length_toList]; omega) hv fun w' k1 k2 => hK w' k1 hB ?_
    refine ⟨by rw [splice_length]; exact h1, .inr ⟨g, c, (splice cur.toList i vs.toList).toArray, rfl, hB, by simpa [Blk] using k2, hnc, hmx, by simpa [splice_length] using hs, ?_⟩⟩
    rw [List.toList_toArray, ← ht, take_splice]
theorem take_set {L : BoxL} (hs : SortedM L) {p : PrefM} {now n : Int} {i : Nat} {e : PrefM × BoxE} (he : L[i]? = some e) (hp : e.1 = p) : takeL L p now n = L.set i (p, { e.2 with tok := e.2.tok.take now n }) := by
  have hi : i < L.length := (List.getElem?_eq_some_iff.1 he).1
  unfold takeL
  apply List.ext_getElem?
  intro j
  rw [List.getElem?_map]
  by_cases hij : i = j
  · subst hij
    rw [List.getElem?_set_self hi, he]
    simp [hp]
  · rw [List.getElem?_set_ne hij]
    cases hj : L[j]? with
    | none => rfl
    | some d =>
      have hjl : j < L.length := (List.getElem?_eq_some_iff.1 hj).1
      rw [Option.map_some, if_neg]
      intro hd
      have h1 : (keysM L)[i]? = some p := by unfold keysM; rw [List.getElem?_map, he]; simp [hp]
      have h2 : (keysM L)[j]? = some p := by unfold keysM; rw [List.getElem?_map, hj]; simp [hd]
      exact hij ((List.getElem?_inj (by unfold keysM; simpa using hi) hs.nodup).1 (h1.trans h2.symm))
theorem reB_tok {burst : Int} {e : PrefM × BoxE} {p : PrefM} {t : TokM} (he : e.1.addr.length = 7) (hp : e.1 = p) : splice (reB burst e) 9 (rtok burst t) = reB burst (p, { e.2 with tok := t }) := by
  obtain ⟨q, y⟩ := e
  simp only at he hp
  subst hp
  have h8 : q.cells.length = 8 := by simp [PrefM.cells, he]
  rw [splice_eq _ _ _ (by rw [reB_len (by exact he)]; simp [rtok])]
  unfold reB
  have h9 : (q.cells ++ (.int .i64 y.until_ :: rtok burst y.tok)).take 9 = q.cells ++ [.int .i64 y.until_] := by rw [List.take_append, h8, List.take_of_length_le (by omega)]; rfl
  simp only [h9]
  rw [List.drop_of_length_le (by simp [h8, rtok])]
  simp
/-- every entry's tokens are whole, and hold no more than the burst -/
def TOk (burst : Int) (L : BoxL) : Prop := ∀ e ∈ L, e.2.tok.Ok ∧ e.2.tok.most = burst * 1048576
theorem ref_takeB (w : World) (A : Option Addr) (L : BoxL) (c : Nat) (room term rate burst : Int) (p : PrefM) (now n : Int) (hp : p.addr.length = 7) (hA : Cs w A (L.flatMap (reB burst))) (hO : POk L) (hs : SortedM L) (hl : L.length ≤ 1000000) (hT : TOk burst L) (hbu : 1 ≤ burst ∧ burst ≤ 1073741824) (hn : now ≤ 9223372036854775807) (hn2 : n ≤ 9223372036854775807) :
    Ret Try.prog 40 #[.agg (rbox A L.length c room term rate burst).toArray, .agg p.cells.toArray, .int .i64 now, .int .i64 n] w fun v w' => ∃ A' c', v = .tuple #[.agg (rbox A' (takeL (sweepL now L) p (max now 0) n).length c' room term rate burst).toArray, .bool (canB now n L p)] ∧ (takeL (sweepL now L) p (max now 0) n).length ≤ c' ∧ Cs w' A' ((takeL (sweepL now L) p (max now 0) n).flatMap (reB burst)) ∧ (∀ a, A' = some a → w.heap.size ≤ a.block) ∧ More w w' := by
  refine ret_of Try.func40 rfl (by kernel_rfl) (Nat.le_of_ble_eq_true (by kernel_rfl)) ?_
  unfold canB
  have hm1 := more_alloc w (.cells (rbox A L.length c room term rate burst).toArray 77)
  have hb1 := Blk.new w 77 (rbox A L.length c room term rate burst).toArray
  have s1 := size_alloc w (.cells (rbox A L.length c room term rate burst).toArray 77)
  have hm2 := more_alloc (w.alloc (.cells (rbox A L.length c room term rate burst).toArray 77)) (.cells p.cells.toArray 24)
  have hb2 := Blk.new (w.alloc (.cells (rbox A L.length c room term rate burst).toArray 77)) 24 p.cells.toArray
  have s2 := size_alloc (w.alloc (.cells (rbox A L.length c room term rate burst).toArray 77)) (.cells p.cells.toArray 24)
  have hm3 := more_alloc ((w.alloc (.cells (rbox A L.length c room term rate burst).toArray 77)).alloc (.cells p.cells.toArray 24)) (.cells (rbox none 0 0 0 0 0 0).toArray 77)
  have hb3 := Blk.new ((w.alloc (.cells (rbox A L.length c room term rate burst).toArray 77)).alloc (.cells p.cells.toArray 24)) 77 (rbox none 0 0 0 0 0 0).toArray
  replace hb1 := hb1.more (hm2.trans hm3)
  replace hb2 := hb2.more hm3
  have hm := (hm1.trans hm2).trans hm3
  rw [s2, s1] at hb3
  rw [s1] at hb2
  rw [s1] at s2
  rw [List.toList_toArray] at hb1 hb2 hb3
  simp (config := {maxSteps := 1000000}) only [↓zvN, zvU, ↓up_apply, ↓hv_apply, ↓upO_some, ↓upO_none, ↓ev_tmp, ↓ev_const, ↓ev_func, ↓ev_global, init, Nat.reduceEqDiff, Nat.reduceAdd, Nat.reduceMul, Nat.reduceSub, ↓reduceIte, Int.reduceEq, Int.reduceNe, Nat.reduceLeDiff, one, Value.cells, Int.reduceLE, Int.reduceLT, Int.reduceToNat, add_mk, reduceCtorEq, List.mem_range'_1, true_and, and_true, and_false, false_and, Nat.reduceLT, Nat.reduceLeDiff, tyF, s1, s2, zerRB]
  obtain ⟨w1, hw1⟩ : ∃ w1, ((w.alloc (.cells (rbox A L.length c room term rate burst).toArray 77)).alloc (.cells p.cells.toArray 24)).alloc (.cells (rbox none 0 0 0 0 0 0).toArray 77) = w1 := ⟨_, rfl⟩
  rw [hw1] at hb1 hb2 hb3 hm ⊢
  have sw1 : w1.heap.size = w.heap.size + 1 + 1 + 1 := by rw [← hw1, size_alloc, s2]
  clear hw1 hm1 hm2 hm3
  have v1 := hb1.all_eq 5 rfl
  simp (config := {maxSteps := 1000000}) only [↓zvN, zvU, ↓up_apply, ↓hv_apply, ↓upO_some, ↓upO_none, ↓ev_tmp, ↓ev_const, ↓ev_func, ↓ev_global, init, Nat.reduceEqDiff, Nat.reduceAdd, Nat.reduceMul, Nat.reduceSub, ↓reduceIte, Int.reduceEq, Int.reduceNe, Nat.reduceLeDiff, one, Value.cells, Int.reduceLE, Int.reduceLT, Int.reduceToNat, add_mk, reduceCtorEq, List.mem_range'_1, true_and, and_true, and_false, false_and, Nat.reduceLT, Nat.reduceLeDiff, tyF, v1, s1, s2]
  refine call_ok Try.call38 (ref_sweep w1 A L c room term rate burst now (hA.more hm) hO hl) ?_
  rintro _ w2 ⟨A2, c2, rfl, hlc2, hA2, hge2, hm2⟩
  obtain ⟨S, hS⟩ : ∃ S, sweepL now L = S := ⟨_, rfl⟩
  have hO2 : POk S := by rw [← hS]; exact fun e he => hO e (List.mem_filter.1 he).1
  have hl2 : S.length ≤ 1000000 := by rw [← hS]; exact Nat.le_trans (sweep_len now L) hl
  rw [hS] at hlc2 hA2 ⊢
  simp (config := {maxSteps := 1000000}) only [↓zvN, zvU, ↓up_apply, ↓hv_apply, ↓upO_some, ↓upO_none, ↓ev_tmp, ↓ev_const, ↓ev_func, ↓ev_global, init, Nat.reduceEqDiff, Nat.reduceAdd, Nat.reduceMul, Nat.reduceSub, ↓reduceIte, Int.reduceEq, Int.reduceNe, Nat.reduceLeDiff, one, Value.cells, Int.reduceLE, Int.reduceLT, Int.reduceToNat, add_mk, reduceCtorEq, List.mem_range'_1, true_and, and_true, and_false, false_and, Nat.reduceLT, Nat.reduceLeDiff, tyF, s1, s2]
  refine st_all (hb1.more hm2) rfl rfl (by simpa using rbox_one A2 S.length c2 room term rate burst) fun w3 j1 j2 => ?_
  rw [s2_undef]
  rw [List.toList_toArray] at j2
  have hgeA : ∀ a, A2 = some a → w.heap.size + 3 ≤ a.block := fun a ha => by have := hge2 a ha; omega
  have hA3 := j1.cs hA2 (fun a ha => by have := hgeA a ha; omega)
  have hb23 := j1.blk (hb2.more hm2) (by omega)
  have hb33 := j1.blk (hb3.more hm2) (by omega)
  have hm13 : More w w3 := more_but (hm.trans hm2) (But.of_wr j1) (Nat.le_refl _)
  have v3 := j2.all_eq 5 rfl
  have hpl : p.cells.length = 8 := by simp [PrefM.cells, hp]
  have q3 := hb23.all_eq 8 hpl
  simp (config := {maxSteps := 1000000}) only [↓zvN, zvU, ↓up_apply, ↓hv_apply, ↓upO_some, ↓upO_none, ↓ev_tmp, ↓ev_const, ↓ev_func, ↓ev_global, init, Nat.reduceEqDiff, Nat.reduceAdd, Nat.reduceMul, Nat.reduceSub, ↓reduceIte, Int.reduceEq, Int.reduceNe, Nat.reduceLeDiff, one, Value.cells, Int.reduceLE, Int.reduceLT, Int.reduceToNat, add_mk, reduceCtorEq, List.mem_range'_1, true_and, and_true, and_false, false_and, Nat.reduceLT, Nat.reduceLeDiff, tyF, v3, q3, s1, s2]
  refine call_ok Try.call39 (ref_findB w3 A2 S c2 room term rate burst p hp hA3 hO2 hl2) ?_
  rintro _ w4 ⟨rfl, hm4⟩
  have hsS : SortedM S := by rw [← hS]; exact hs.sweep now
  have hb4 := j2.more hm4
  rcases idxB_spec (p := p) S 0 with ⟨hi, hk⟩ | ⟨i, hi, hil, e, he, hep⟩
  · have v4 := hb4.all_eq 5 rfl
    have htl : takeL S p (max now 0) n = S := by
      unfold takeL
      conv => rhs; rw [← List.map_id S]
      exact List.map_congr_left fun d hd => if_neg fun h => hk (mem_keys.2 ⟨d.2, by rw [← h]; exact hd⟩)
    rw [hi, htl, get_none hk]
    simp (config := {maxSteps := 1000000}) only [↓zvN, zvU, ↓up_apply, ↓hv_apply, ↓upO_some, ↓upO_none, ↓ev_tmp, ↓ev_const, ↓ev_func, ↓ev_global, init, Nat.reduceEqDiff, Nat.reduceAdd, Nat.reduceMul, Nat.reduceSub, ↓reduceIte, Int.reduceEq, Int.reduceNe, Nat.reduceLeDiff, one, Value.cells, Int.reduceLE, Int.reduceLT, Int.reduceToNat, add_mk, reduceCtorEq, List.mem_range'_1, true_and, and_true, and_false, false_and, Nat.reduceLT, Nat.reduceLeDiff, tyF, v4, s1, s2]
    refine st_all (hb33.more hm4) rfl rfl (by simpa using rbox_one A2 S.length c2 room term rate burst) fun w5 k1 k2 => ?_
    rw [s2_undef]
    rw [List.toList_toArray] at k2
    have v5 := k2.all_eq 5 rfl
    simp (config := {maxSteps := 1000000}) only [↓zvN, zvU, ↓up_apply, ↓hv_apply, ↓upO_some, ↓upO_none, ↓ev_tmp, ↓ev_const, ↓ev_func, ↓ev_global, init, Nat.reduceEqDiff, Nat.reduceAdd, Nat.reduceMul, Nat.reduceSub, ↓reduceIte, Int.reduceEq, Int.reduceNe, Nat.reduceLeDiff, one, Value.cells, Int.reduceLE, Int.reduceLT, Int.reduceToNat, add_mk, reduceCtorEq, List.mem_range'_1, true_and, and_true, and_false, false_and, Nat.reduceLT, Nat.reduceLeDiff, tyF, v5, s1, s2]
    exact ⟨A2, c2, rfl, hlc2, k1.cs (hA3.more hm4) (fun a ha => by have := hgeA a ha; omega), fun a ha => by have := hgeA a ha; omega, more_but (hm13.trans hm4) (But.of_wr k1) (by omega)⟩
  rw [Nat.zero_add] at hi
  have hem : (p, e.2) ∈ S := by rw [← hep]; exact List.mem_of_getElem? he
  rw [hi, take_set hsS he hep, get_some hsS hem]
  have g0 : (0 : Int) ≤ (i : Int) := by omega
  have g1 : (i : Int) < (S.length : Int) := by omega
  have g2 : ¬ (i : Int) < 0 := by omega
  have hto : e.2.tok.Ok ∧ e.2.tok.most = burst * 1048576 := hT e (by rw [← hS] at he; exact (List.mem_filter.1 (List.mem_of_getElem? he)).1)
  simp (config := {maxSteps := 1000000}) only [↓zvN, zvU, ↓up_apply, ↓hv_apply, ↓upO_some, ↓upO_none, ↓ev_tmp, ↓ev_const, ↓ev_func, ↓ev_global, init, Nat.reduceEqDiff, Nat.reduceAdd, Nat.reduceMul, Nat.reduceSub, ↓reduceIte, Int.reduceEq, Int.reduceNe, Nat.reduceLeDiff, one, Value.cells, Int.reduceLE, Int.reduceLT, Int.reduceToNat, add_mk, reduceCtorEq, List.mem_range'_1, true_and, and_true, and_false, false_and, Nat.reduceLT, Nat.reduceLeDiff, tyF, g2, s1, s2]
  refine bslice0 Try.underlying75 reBE ?_
  have hm5 := more_alloc w4 (.cells #[] 125)
  have ho5 := Own.made w4 125 13 #[] 0 rfl (by simp [maxLen]) (Nat.le_refl _)
  obtain ⟨w5, hw5⟩ : ∃ w5, w4.alloc (.cells #[] 125) = w5 := ⟨_, rfl⟩
  rw [hw5] at hm5 ho5 ⊢
  clear hw5
  have c50 : w5.cell? ⟨w.heap.size, 0, none⟩ = some (.slice A2 S.length c2) := by rw [(hb4.more hm5).cell]; rfl
  have hA5 := (hA3.more hm4).more hm5
  simp (config := {maxSteps := 1000000}) only [↓zvN, zvU, ↓up_apply, ↓hv_apply, ↓upO_some, ↓upO_none, ↓ev_tmp, ↓ev_const, ↓ev_func, ↓ev_global, init, Nat.reduceEqDiff, Nat.reduceAdd, Nat.reduceMul, Nat.reduceSub, ↓reduceIte, Int.reduceEq, Int.reduceNe, Nat.reduceLeDiff, one, Value.cells, Int.reduceLE, Int.reduceLT, Int.reduceToNat, add_mk, reduceCtorEq, List.mem_range'_1, true_and, and_true, and_false, false_and, Nat.reduceLT, Nat.reduceLeDiff, tyF, c50, s1, s2]
  refine app_mod (m := S.length) (news := S.flatMap (reB burst)) Try.underlying75 reBE rfl (by omega) ho5 hA5 (row_len (s := 13) S hO2.lens) (fun u hu => by obtain ⟨e, _, he⟩ := List.mem_flatMap.1 hu; exact reB_one _ e u he) (by simp only [maxLen]; omega) (by omega) hm5.size ?_
  intro A6 c6 w6 ho6 hmd6 hat6
  simp only [Nat.zero_add, List.nil_append] at ho6 ⊢
  have hm46 : More w4 w6 := Mod.more hm5 hmd6 (fun j hj h => by have h' := (atB_some _ j).1 h; simp only at h'; omega)
  have hb6 := hb4.more hm46
  obtain ⟨a6, hA6e⟩ := ho6.cs.some_of (by rw [row_len (s := 13) S hO2.lens]; omega)
  subst hA6e
  have la6 := Cs.lt' ho6.cs (by rw [row_len (s := 13) S hO2.lens]; omega)
  have heo := hO2 e (List.mem_of_getElem? he)
  have h8 : e.1.cells.length = 8 := by simp [PrefM.cells, heo]
  have rd6 : ∀ K : Value → Prop, ldRow 4 ((a6.add (i * 13)).add 9) w6 K = K (.agg (rtok burst e.2.tok).toArray) := fun K => by
    refine ldRow_eq (show (rtok burst e.2.tok).length = 4 from rfl) (fun j hj => ?_) K
    rw [add_add, ho6.cs.elemA (s := 13) hO2.lens he (by omega), reB, List.getElem?_append_right (by omega), h8, show 9 + j - 8 = j + 1 by omega, List.getElem?_cons_succ]
  obtain ⟨mx, hmx⟩ : ∃ mx, max now 0 = mx := ⟨_, rfl⟩
  rw [hmx]
  have hcl : ∀ w3, Ret Try.prog 60 #[.int .i64 now] w3 fun v w' => v = .int .i64 mx ∧ w' = w3 := fun w3 => by rw [← hmx]; exact ref_clamp w3 now
  simp (config := {maxSteps := 1000000}) only [↓zvN, zvU, ↓up_apply, ↓hv_apply, ↓upO_some, ↓upO_none, ↓ev_tmp, ↓ev_const, ↓ev_func, ↓ev_global, init, Nat.reduceEqDiff, Nat.reduceAdd, Nat.reduceMul, Nat.reduceSub, ↓reduceIte, Int.reduceEq, Int.reduceNe, Nat.reduceLeDiff, one, Value.cells, Int.reduceLE, Int.reduceLT, Int.reduceToNat, add_mk, reduceCtorEq, List.mem_range'_1, true_and, and_true, and_false, false_and, Nat.reduceLT, Nat.reduceLeDiff, tyF, s1, s2]
  refine draw_lineX w6.heap.size w4.heap.size More (fun a b => Below w4.heap.size a b) [0, 0, 0, 0, 0, 0, 0, 0, 1, 0, 1, 0, 0, 4, 0, 0, 3, 4] [[], [], [], [], [2, 3], [2, 3, 4], [2, 3, 4, 5], [], [7], [], [2, 3, 4, 5, 6, 7, 8, 9], [2, 3, 4, 5, 6, 7, 8, 9, 10], [2, 3, 4, 5, 6, 7, 8, 9, 10, 11], [2, 3, 4, 5, 6, 7, 8, 9, 10, 11], [0, 1, 2, 3, 4, 5, 6, 7, 8, 9, 10, 11, 12], [0, 1, 2, 3, 4, 5, 6, 7, 8, 9, 10, 11, 12, 14], [0, 1, 2, 3, 4, 5, 6, 7, 8, 9, 10, 11, 12, 14, 15], [0, 1, 2, 3, 4, 5, 6, 7, 8, 9, 10, 11, 12, 13, 14, 15, 16]] mixed (by kernel_rfl) (by kernel_rfl) (by kernel_rfl) (More.refl _) (fun w' h => h) (fun w' h => Below.mono h hm46.size) (fun w' h => h) (fun w' h => h) ?_
  intro w7 hm7
  simp (config := {maxSteps := 1000000}) only [↓zvN, zvU, ↓zqD, ↓sk_nil, ↓sk_cons, ↓sk_guard, ↓sk_zero, ↓sk_one, ↓sk_two, ↓up_apply, ↓hv_apply, ↓upO_some, ↓upO_none, ↓ev_tmp, ↓ev_const, ↓ev_func, ↓ev_global, init, Nat.reduceEqDiff, Nat.reduceAdd, Nat.reduceMul, Nat.reduceSub, ↓reduceIte, Int.reduceEq, Int.reduceNe, Nat.reduceLeDiff, one, Value.cells, Int.reduceLE, Int.reduceLT, Int.reduceToNat, add_mk, reduceCtorEq, List.mem_range'_1, true_and, and_true, and_false, false_and, Nat.reduceLT, Nat.reduceLeDiff, ↓sx_nil, ↓sx_cons, ↓sx_zero, ↓sx_one, ↓sx_two, ↓sx_three, ↓sx_four, tyF, s1, s2, g0, g1, g2, hil, la6, rd6, Int.toNat_natCast]
  refine call_ok Try.call60 (hcl w7) ?_
  rintro _ w8 ⟨rfl, rfl⟩
  simp (config := {maxSteps := 1000000}) only [↓zvN, zvU, ↓zqD, ↓sk_nil, ↓sk_cons, ↓sk_guard, ↓sk_zero, ↓sk_one, ↓sk_two, ↓up_apply, ↓hv_apply, ↓upO_some, ↓upO_none, ↓ev_tmp, ↓ev_const, ↓ev_func, ↓ev_global, init, Nat.reduceEqDiff, Nat.reduceAdd, Nat.reduceMul, Nat.reduceSub, ↓reduceIte, Int.reduceEq, Int.reduceNe, Nat.reduceLeDiff, one, Value.cells, Int.reduceLE, Int.reduceLT, Int.reduceToNat, add_mk, reduceCtorEq, List.mem_range'_1, true_and, and_true, and_false, false_and, Nat.reduceLT, Nat.reduceLeDiff, ↓sx_nil, ↓sx_cons, ↓sx_zero, ↓sx_one, ↓sx_two, ↓sx_three, ↓sx_four, tyF, s1, s2, g0, g1, g2, hil, la6, rd6, Int.toNat_natCast]
  refine ⟨hm7, ?_⟩
  try simp (config := {maxSteps := 1000000}) only [↓zvN, zvU, ↓zqD, ↓sk_nil, ↓sk_cons, ↓sk_guard, ↓sk_zero, ↓sk_one, ↓sk_two, ↓up_apply, ↓hv_apply, ↓upO_some, ↓upO_none, ↓ev_tmp, ↓ev_const, ↓ev_func, ↓ev_global, init, Nat.reduceEqDiff, Nat.reduceAdd, Nat.reduceMul, Nat.reduceSub, ↓reduceIte, Int.reduceEq, Int.reduceNe, Nat.reduceLeDiff, one, Value.cells, Int.reduceLE, Int.reduceLT, Int.reduceToNat, add_mk, reduceCtorEq, List.mem_range'_1, true_and, and_true, and_false, false_and, Nat.reduceLT, Nat.reduceLeDiff, ↓sx_nil, ↓sx_cons, ↓sx_zero, ↓sx_one, ↓sx_two, ↓sx_three, ↓sx_four, tyF, s1, s2, g0, g1, g2, hil, la6, rd6, Int.toNat_natCast]
  refine call_ok Try.call62 (rt_take w8 e.2.tok burst mx n hto.1 hto.2 hbu (by omega) hn2) ?_
  rintro _ w9 ⟨rfl, hm9⟩
  simp (config := {maxSteps := 1000000}) only [↓zvN, zvU, ↓zqD, ↓sk_nil, ↓sk_cons, ↓sk_guard, ↓sk_zero, ↓sk_one, ↓sk_two, ↓up_apply, ↓hv_apply, ↓upO_some, ↓upO_none, ↓ev_tmp, ↓ev_const, ↓ev_func, ↓ev_global, init, Nat.reduceEqDiff, Nat.reduceAdd, Nat.reduceMul, Nat.reduceSub, ↓reduceIte, Int.reduceEq, Int.reduceNe, Nat.reduceLeDiff, one, Value.cells, Int.reduceLE, Int.reduceLT, Int.reduceToNat, add_mk, reduceCtorEq, List.mem_range'_1, true_and, and_true, and_false, false_and, Nat.reduceLT, Nat.reduceLeDiff, ↓sx_nil, ↓sx_cons, ↓sx_zero, ↓sx_one, ↓sx_two, ↓sx_three, ↓sx_four, tyF, s1, s2, g0, g1, g2, hil, la6, rd6, Int.toNat_natCast]
  refine ⟨hm7.trans hm9, ?_⟩
  try simp (config := {maxSteps := 1000000}) only [↓zvN, zvU, ↓zqD, ↓sk_nil, ↓sk_cons, ↓sk_guard, ↓sk_zero, ↓sk_one, ↓sk_two, ↓up_apply, ↓hv_apply, ↓upO_some, ↓upO_none, ↓ev_tmp, ↓ev_const, ↓ev_func, ↓ev_global, init, Nat.reduceEqDiff, Nat.reduceAdd, Nat.reduceMul, Nat.reduceSub, ↓reduceIte, Int.reduceEq, Int.reduceNe, Nat.reduceLeDiff, one, Value.cells, Int.reduceLE, Int.reduceLT, Int.reduceToNat, add_mk, reduceCtorEq, List.mem_range'_1, true_and, and_true, and_false, false_and, Nat.reduceLT, Nat.reduceLeDiff, ↓sx_nil, ↓sx_cons, ↓sx_zero, ↓sx_one, ↓sx_two, ↓sx_three, ↓sx_four, tyF, s1, s2, g0, g1, g2, hil, la6, rd6, Int.toNat_natCast]
  have hm79 := hm7.trans hm9
  have ho9 := ho6.more hm79
  rw [add_add]
  refine Own.stR ho9 (by omega) rfl (by intro u hu; simp [rtok] at hu; rcases hu with rfl | rfl | rfl | rfl <;> rfl) fun w10 k1 hBk k2 => ?_
  rw [s2_undef]
  rw [List.toList_toArray, row_part (s := 13) (j := 9) hO2.lens he (by simp [rtok]) (reB_tok heo hep)] at k2
  refine ⟨k1.below (Below.mono hm79 hm46.size) hBk, ?_⟩
  simp (config := {maxSteps := 1000000}) only [↓zvN, zvU, ↓zqD, ↓sk_nil, ↓sk_cons, ↓sk_guard, ↓sk_zero, ↓sk_one, ↓sk_two, ↓up_apply, ↓hv_apply, ↓upO_some, ↓upO_none, ↓ev_tmp, ↓ev_const, ↓ev_func, ↓ev_global, init, Nat.reduceEqDiff, Nat.reduceAdd, Nat.reduceMul, Nat.reduceSub, ↓reduceIte, Int.reduceEq, Int.reduceNe, Nat.reduceLeDiff, one, Value.cells, Int.reduceLE, Int.reduceLT, Int.reduceToNat, add_mk, reduceCtorEq, List.mem_range'_1, true_and, and_true, and_false, false_and, Nat.reduceLT, Nat.reduceLeDiff, ↓sx_nil, ↓sx_cons, ↓sx_zero, ↓sx_one, ↓sx_two, ↓sx_three, ↓sx_four, tyF, s1, s2]
  have hs4 := hm4.size
  have hs13 := hm13.size
  have hs2' := hm2.size
  have hj1 := j1.size
  have hs46 := hm46.size
  have hb10 := k1.blk (hb6.more hm79) (by omega)
  refine st_cell hb10 (by simp [rbox]) rfl fun w11 t1 t2 => ?_
  rw [s2_undef]
  replace t2 : Blk w11 w.heap.size 77 (rbox (some a6) S.length c6 room term rate burst) := t2
  have v11 := t2.all_eq 5 rfl
  simp (config := {maxSteps := 1000000}) only [↓zvN, zvU, ↓up_apply, ↓hv_apply, ↓upO_some, ↓upO_none, ↓ev_tmp, ↓ev_const, ↓ev_func, ↓ev_global, init, Nat.reduceEqDiff, Nat.reduceAdd, Nat.reduceMul, Nat.reduceSub, ↓reduceIte, Int.reduceEq, Int.reduceNe, Nat.reduceLeDiff, one, Value.cells, Int.reduceLE, Int.reduceLT, Int.reduceToNat, add_mk, reduceCtorEq, List.mem_range'_1, true_and, and_true, and_false, false_and, Nat.reduceLT, Nat.reduceLeDiff, tyF, v11, s1, s2]
  refine st_all (t1.blk (k1.blk (hb33.more (hm4.trans (hm46.trans hm79))) (by omega)) (by omega)) rfl rfl (by simpa using rbox_one (some a6) S.length c6 room term rate burst) fun w12 q1 q2 => ?_
  rw [s2_undef]
  rw [List.toList_toArray] at q2
  have v12 := q2.all_eq 5 rfl
  simp (config := {maxSteps := 1000000}) only [↓zvN, zvU, ↓up_apply, ↓hv_apply, ↓upO_some, ↓upO_none, ↓ev_tmp, ↓ev_const, ↓ev_func, ↓ev_global, init, Nat.reduceEqDiff, Nat.reduceAdd, Nat.reduceMul, Nat.reduceSub, ↓reduceIte, Int.reduceEq, Int.reduceNe, Nat.reduceLeDiff, one, Value.cells, Int.reduceLE, Int.reduceLT, Int.reduceToNat, add_mk, reduceCtorEq, List.mem_range'_1, true_and, and_true, and_false, false_and, Nat.reduceLT, Nat.reduceLeDiff, tyF, v12, s1, s2]
  have hne : ∀ a, some a6 = some a → w.heap.size + 3 ≤ a.block := fun a ha => by cases ha; omega
  exact ⟨some a6, c6, by rw [List.length_set]; rfl, by rw [List.length_set]; exact k2.le, q1.cs (t1.cs k2.cs (fun a ha => by have := hne a ha; omega)) (fun a ha => by have := hne a ha; omega), fun a ha => by have := hne a ha; omega, more_but (more_but (more_but (hm13.trans (hm4.trans (hm46.trans hm79))) (But.of_wr k1) (by omega)) (But.of_wr t1) (Nat.le_refl _)) (But.of_wr q1) (by omega)⟩
end Go.Proofs.Ytimhcjakpdebjaa
