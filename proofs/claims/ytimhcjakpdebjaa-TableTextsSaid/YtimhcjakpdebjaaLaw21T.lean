/-
  Layer 21: a table of texts (TableTexts).
-/
import Derived.Test.YtimhcjakpdebjaaLaw21P
namespace Go.Proofs.Ytimhcjakpdebjaa
open Go Go.RowKit Go.Proofs.RV
set_option linter.unusedSimpArgs false
set_option linter.unusedVariables false
set_option maxRecDepth 10000
set_option maxHeartbeats 4000000
theorem prefs_in {w : World} {k : Nat} {cs : List Value} (h : Lays Try.prog w k 39 cs) :
    ∃ (A : Option Addr) (l : List PrefM) (c : Nat), cs = [.slice A l.length c] ∧ l.length ≤ c ∧ Cs w A (l.flatMap PrefM.cells) ∧ (∀ a ∈ l, a.cells.length = 8) ∧ ∀ a ∈ l, a.addr.length = 7 := by
  refine h.rowOf Try.underlying39 cells24 (by omega) _ fun k cs' h' hl => ?_
  exact pref_in h'
def txtOf (s : ByteArray) (e : RE) : EntM := (e.1, (fun _ => [Value.string s]) e.2)
def TxtJ (l : List PrefM) (s : ByteArray) (b t : Nat) (w : World) (v7 v27 : Value) (w' : World) : Prop :=
  ∃ (k : Nat) (W : List RE) (A : Option Addr) (c : Nat), v27 = .int .i64 k ∧ k ≤ l.length ∧ v7 = .slice A W.length c ∧ W.length ≤ c ∧ Cs w' A (W.flatMap reC) ∧ (∀ a, A = some a → ¬ two b t a.block) ∧ ReOk W ∧ SortedM W ∧ TabA_string w' b t (W.map (txtOf s)) 64 ∧ (∀ q ∈ keysM W, q ∈ l) ∧ More w w'
def TxtK (l : List PrefM) (s : ByteArray) (b t : Nat) (w : World) (v7 v55 : Value) (w' : World) : Prop :=
  ∃ (k : Nat) (W : List RE) (A : Option Addr) (c : Nat), v55 = .int .i64 k ∧ k ≤ l.length ∧ v7 = .slice A W.length c ∧ W.length ≤ c ∧ Cs w' A (W.flatMap reC) ∧ (∀ a, A = some a → ¬ two b t a.block) ∧ ReOk W ∧ SortedM W ∧ TabA_string w' b t (W.map (txtOf s)) 64 ∧ (∀ q ∈ keysM W, q ∈ l.drop k) ∧ More w w'
theorem keys_txt (s : ByteArray) (W : List RE) : keysM (W.map (txtOf s)) = keysM W := keys_map (fun _ => [Value.string s]) W
theorem table_texts (w : World) (A0 : Option Addr) (l : List PrefM) (c0 : Nat) (s : ByteArray) (hA0 : Cs w A0 (l.flatMap PrefM.cells)) (hO : ∀ a ∈ l, a.addr.length = 7) :
    Ret Try.prog 6 #[.slice A0 l.length c0, .string s] w fun v w' => v = .bool true ∧ More w w' := by
  refine ret_of Try.func6 rfl (by kernel_rfl) (Nat.le_of_ble_eq_true (by kernel_rfl)) ?_
  simp (config := {maxSteps := 1000000}) only [↓zvN, zvU, ↓up_apply, ↓hv_apply, ↓upO_some, ↓upO_none, ↓ev_tmp, ↓ev_const, ↓ev_func, ↓ev_global, init, Nat.reduceEqDiff, Nat.reduceAdd, Nat.reduceMul, Nat.reduceSub, ↓reduceIte, Int.reduceEq, Int.reduceNe, Nat.reduceLeDiff, one, Value.cells, Int.reduceLE, Int.reduceLT, Int.reduceToNat, add_mk, reduceCtorEq, List.mem_range'_1, true_and, and_true, and_false, false_and, Nat.reduceLT, Nat.reduceLeDiff, tyF]
  refine call_ok Try.call10 (awake21 _) ?_
  rintro _ w1 ⟨rfl, hm1⟩
  by_cases h200 : (30 : Int) < (l.length : Int)
  · simp (config := {maxSteps := 1000000}) only [↓zvN, zvU, ↓up_apply, ↓hv_apply, ↓upO_some, ↓upO_none, ↓ev_tmp, ↓ev_const, ↓ev_func, ↓ev_global, init, Nat.reduceEqDiff, Nat.reduceAdd, Nat.reduceMul, Nat.reduceSub, ↓reduceIte, Int.reduceEq, Int.reduceNe, Nat.reduceLeDiff, one, Value.cells, Int.reduceLE, Int.reduceLT, Int.reduceToNat, add_mk, reduceCtorEq, List.mem_range'_1, true_and, and_true, and_false, false_and, Nat.reduceLT, Nat.reduceLeDiff, tyF, h200]
    refine call_ok Try.call10 (awake21 _) ?_
    rintro _ w2 ⟨rfl, hm2⟩
    simp (config := {maxSteps := 1000000}) only [↓zvN, zvU, ↓up_apply, ↓hv_apply, ↓upO_some, ↓upO_none, ↓ev_tmp, ↓ev_const, ↓ev_func, ↓ev_global, init, Nat.reduceEqDiff, Nat.reduceAdd, Nat.reduceMul, Nat.reduceSub, ↓reduceIte, Int.reduceEq, Int.reduceNe, Nat.reduceLeDiff, one, Value.cells, Int.reduceLE, Int.reduceLT, Int.reduceToNat, add_mk, reduceCtorEq, List.mem_range'_1, true_and, and_true, and_false, false_and, Nat.reduceLT, Nat.reduceLeDiff, tyF]
    exact ⟨rfl, hm1.trans hm2⟩
  simp (config := {maxSteps := 1000000}) only [↓zvN, zvU, ↓up_apply, ↓hv_apply, ↓upO_some, ↓upO_none, ↓ev_tmp, ↓ev_const, ↓ev_func, ↓ev_global, init, Nat.reduceEqDiff, Nat.reduceAdd, Nat.reduceMul, Nat.reduceSub, ↓reduceIte, Int.reduceEq, Int.reduceNe, Nat.reduceLeDiff, one, Value.cells, Int.reduceLE, Int.reduceLT, Int.reduceToNat, add_mk, reduceCtorEq, List.mem_range'_1, true_and, and_true, and_false, false_and, Nat.reduceLT, Nat.reduceLeDiff, tyF, h200]
  have hl : l.length ≤ 30 := by omega
  refine call_ok Try.call24 (tab_new_string w1 64 (by omega) (by omega)) ?_
  rintro _ w2 ⟨b, t, rfl, hb, ht, hT, hm2⟩
  have hm12 := hm1.trans hm2
  have hsz := hm1.size
  simp (config := {maxSteps := 1000000}) only [↓zvN, zvU, ↓up_apply, ↓hv_apply, ↓upO_some, ↓upO_none, ↓ev_tmp, ↓ev_const, ↓ev_func, ↓ev_global, init, Nat.reduceEqDiff, Nat.reduceAdd, Nat.reduceMul, Nat.reduceSub, ↓reduceIte, Int.reduceEq, Int.reduceNe, Nat.reduceLeDiff, one, Value.cells, Int.reduceLE, Int.reduceLT, Int.reduceToNat, add_mk, reduceCtorEq, List.mem_range'_1, true_and, and_true, and_false, false_and, Nat.reduceLT, Nat.reduceLeDiff, tyF]
  have hlens : ∀ a ∈ l, a.cells.length = 8 := fun a ha => by simp [PrefM.cells, hO a ha]
  refine loop_p (7 :: 8 :: List.range' 27 20) (fun e w' => TxtJ l s b t w (e 7) (e 27) w') (fun e _ => l.length - (numOf (e 27)).toNat) ?_ ?_
  · exact ⟨0, [], none, 0, by simp only [hv_apply, up_apply, upO_some, upO_none, init, List.mem_cons, List.mem_range'_1, true_and, and_true, and_false, false_and, Nat.reduceLT, Nat.reduceLeDiff, Nat.reduceAdd, true_or, or_true, if_true, if_false, ↓reduceIte, Nat.reduceEqDiff, false_or, or_false, List.not_mem_nil, List.getElem?_cons_zero, List.getElem?_cons_succ, Option.getD_some] <;> rfl, by omega, by simp only [hv_apply, up_apply, upO_some, upO_none, init, List.mem_cons, List.mem_range'_1, true_and, and_true, and_false, false_and, Nat.reduceLT, Nat.reduceLeDiff, Nat.reduceAdd, true_or, or_true, if_true, if_false, ↓reduceIte, Nat.reduceEqDiff, false_or, or_false, List.not_mem_nil, List.getElem?_cons_zero, List.getElem?_cons_succ, Option.getD_some] <;> rfl, Nat.le_refl _, Cs.nil _ _, (fun a ha => by cases ha), (fun e he => by cases he), List.Pairwise.nil, hT, (fun q hq => by cases hq), hm12⟩
  rintro v w3 ⟨k, W, A, c, h27, hk, h7, hWc, hAW, hAb, hWo, hWs, hTk, hsub, hm3⟩
  simp only [hv_apply, up_apply, upO_some, upO_none, init, List.mem_cons, List.mem_range'_1, true_and, and_true, and_false, false_and, Nat.reduceLT, Nat.reduceLeDiff, Nat.reduceAdd, true_or, or_true, if_true, if_false, ↓reduceIte, Nat.reduceEqDiff, false_or, or_false, List.not_mem_nil, List.getElem?_cons_zero, List.getElem?_cons_succ, Option.getD_some] at h27 h7
  have ek : IntKind.i64.wrap ((k : Int) + 1) = ((k + 1 : Nat) : Int) := w64 (by omega) (by omega)
  have hWl : W.length ≤ 64 := by have := hTk.le; simpa using this
  have hbt := hTk.lt
  simp (config := {maxSteps := 1000000}) only [↓zvN, zvU, ↓up_apply, ↓hv_apply, ↓upO_some, ↓upO_none, ↓ev_tmp, ↓ev_const, ↓ev_func, ↓ev_global, init, Nat.reduceEqDiff, Nat.reduceAdd, Nat.reduceMul, Nat.reduceSub, ↓reduceIte, Int.reduceEq, Int.reduceNe, Nat.reduceLeDiff, one, Value.cells, Int.reduceLE, Int.reduceLT, Int.reduceToNat, add_mk, reduceCtorEq, List.mem_range'_1, true_and, and_true, and_false, false_and, Nat.reduceLT, Nat.reduceLeDiff, tyF, h27]
  refine ⟨fun h9 => ?_, fun h9 => ?_⟩
  · obtain ⟨a, ha⟩ := row_nat l k (by omega)
    obtain ⟨ad, rfl⟩ := hA0.some_of (by rw [row_len l hlens]; omega)
    have hap := hO a (List.mem_of_getElem? ha)
    have rd := (hA0.more hm3).rowEq hlens ha
    have g0 : (0 : Int) ≤ (k : Int) := by omega
    simp (config := {maxSteps := 1000000}) only [↓zvN, zvU, ↓up_apply, ↓hv_apply, ↓upO_some, ↓upO_none, ↓ev_tmp, ↓ev_const, ↓ev_func, ↓ev_global, init, Nat.reduceEqDiff, Nat.reduceAdd, Nat.reduceMul, Nat.reduceSub, ↓reduceIte, Int.reduceEq, Int.reduceNe, Nat.reduceLeDiff, one, Value.cells, Int.reduceLE, Int.reduceLT, Int.reduceToNat, add_mk, reduceCtorEq, List.mem_range'_1, true_and, and_true, and_false, false_and, Nat.reduceLT, Nat.reduceLeDiff, tyF, h27, h7, g0, h9, rd, Int.toNat_natCast]
    refine call_ok Try.call25 (tab_put_string w3 b t (W.map (txtOf s)) 64 a s hap hTk (by omega)) ?_
    rintro _ w4 ⟨rfl, hT4, hm4⟩
    have hm34 := two_more hm3 hm4 (by omega) (by omega)
    have hA4 := hm4.cs hAW hAb
    have rd := (hA0.more hm34).rowEq hlens ha
    have hpk : putOk (W.map (txtOf s)) 64 a = decide (a ∈ keysM W ∨ W.length < 64) := by
      have hmem : a ∈ keysM (W.map (txtOf s)) ↔ a ∈ keysM W := by rw [keys_txt]
      unfold putOk
      rw [List.length_map]
      by_cases h1 : a ∈ keysM W <;> by_cases h2 : W.length < 64 <;> simp [hmem, h1, h2]
    have hpl : putA (W.map (txtOf s)) 64 a [.string s] = (putR W 64 a 0).map (txtOf s) := by
      unfold putA putR
      rw [hpk]
      by_cases h1 : a ∈ keysM W ∨ W.length < 64
      · rw [if_pos (decide_eq_true h1), if_pos h1]
        exact put_map (fun _ => [Value.string s]) W a 0
      · rw [if_neg (by simpa using h1), if_neg h1]
    rw [hpl] at hT4
    simp (config := {maxSteps := 1000000}) only [↓zvN, zvU, ↓up_apply, ↓hv_apply, ↓upO_some, ↓upO_none, ↓ev_tmp, ↓ev_const, ↓ev_func, ↓ev_global, init, Nat.reduceEqDiff, Nat.reduceAdd, Nat.reduceMul, Nat.reduceSub, ↓reduceIte, Int.reduceEq, Int.reduceNe, Nat.reduceLeDiff, one, Value.cells, Int.reduceLE, Int.reduceLT, Int.reduceToNat, add_mk, reduceCtorEq, List.mem_range'_1, true_and, and_true, and_false, false_and, Nat.reduceLT, Nat.reduceLeDiff, tyF, h27, h7, g0, h9, rd, Int.toNat_natCast]
    refine call_ok Try.call20 (ref_put w4 A W c 64 a 0 hap hA4 hWo hWs hWc (by omega) (by omega)) ?_
    rintro _ w5 ⟨A9, c9, rfl, hc9, hA9, hAA, hm5⟩
    have hT5 := hT4.more hm5
    have hWo9 : ReOk (putR W 64 a 0) := by
      unfold putR
      split
      · exact hWo.put hap 0
      · exact hWo
    have hWs9 : SortedM (putR W 64 a 0) := by
      unfold putR
      split
      · exact hWs.put _ _
      · exact hWs
    have hsub9 : ∀ q ∈ keysM (putR W 64 a 0), q ∈ l := by
      intro q hq
      unfold putR at hq
      split at hq
      · obtain ⟨u, hu⟩ := mem_keys.1 hq
        rcases mem_putL.1 hu with ⟨h1, _⟩ | ⟨_, h1⟩
        · rw [h1]; exact List.mem_of_getElem? ha
        · exact hsub q (mem_keys.2 ⟨u, h1⟩)
      · exact hsub q hq
    obtain ⟨W9, hW9⟩ : ∃ W9, putR W 64 a 0 = W9 := ⟨_, rfl⟩
    rw [hW9] at hT5 hA9 hc9 hWo9 hWs9 hsub9 ⊢
    have hAb9 : ∀ x, A9 = some x → ¬ two b t x.block := by
      intro x hx
      rcases hAA with h | h
      · exact hAb x (by rw [← h]; exact hx)
      · have h1 := h x hx
        have h2 := hm4.size
        rintro (h' | h') <;> omega
    simp (config := {maxSteps := 1000000}) only [↓zvN, zvU, ↓up_apply, ↓hv_apply, ↓upO_some, ↓upO_none, ↓ev_tmp, ↓ev_const, ↓ev_func, ↓ev_global, init, Nat.reduceEqDiff, Nat.reduceAdd, Nat.reduceMul, Nat.reduceSub, ↓reduceIte, Int.reduceEq, Int.reduceNe, Nat.reduceLeDiff, one, Value.cells, Int.reduceLE, Int.reduceLT, Int.reduceToNat, add_mk, reduceCtorEq, List.mem_range'_1, true_and, and_true, and_false, false_and, Nat.reduceLT, Nat.reduceLeDiff, tyF, h27, ek]
    refine ⟨⟨?_, k + 1, W9, A9, c9, rfl, by omega, rfl, hc9, hA9, hAb9, hWo9, hWs9, hT5, hsub9, hm34.trans hm5⟩, by simp only [numOf]; omega⟩
    repeat (first | exact Same.hv _ _ _ | refine Same.up (by simp) ?_)
  clear ek
  try simp (config := {maxSteps := 1000000}) only [↓zvN, zvU, ↓up_apply, ↓hv_apply, ↓upO_some, ↓upO_none, ↓ev_tmp, ↓ev_const, ↓ev_func, ↓ev_global, init, Nat.reduceEqDiff, Nat.reduceAdd, Nat.reduceMul, Nat.reduceSub, ↓reduceIte, Int.reduceEq, Int.reduceNe, Nat.reduceLeDiff, one, Value.cells, Int.reduceLE, Int.reduceLT, Int.reduceToNat, add_mk, reduceCtorEq, List.mem_range'_1, true_and, and_true, and_false, false_and, Nat.reduceLT, Nat.reduceLeDiff, tyF]
  refine call_ok Try.call26 (tab_all_string w3 b t _ 64 hTk) ?_
  rintro _ w11 ⟨A11, c11, rfl, hA11, _, hm11⟩
  rw [keys_txt] at hA11 ⊢
  simp (config := {maxSteps := 1000000}) only [↓zvN, zvU, ↓up_apply, ↓hv_apply, ↓upO_some, ↓upO_none, ↓ev_tmp, ↓ev_const, ↓ev_func, ↓ev_global, init, Nat.reduceEqDiff, Nat.reduceAdd, Nat.reduceMul, Nat.reduceSub, ↓reduceIte, Int.reduceEq, Int.reduceNe, Nat.reduceLeDiff, one, Value.cells, Int.reduceLE, Int.reduceLT, Int.reduceToNat, add_mk, reduceCtorEq, List.mem_range'_1, true_and, and_true, and_false, false_and, Nat.reduceLT, Nat.reduceLeDiff, tyF, h7]
  refine call_ok Try.call23 (ref_prefixes w11 A W c (hAW.more hm11) hWo (by omega)) ?_
  rintro _ w12 ⟨A12, c12, rfl, hA12, hm12'⟩
  simp (config := {maxSteps := 1000000}) only [↓zvN, zvU, ↓up_apply, ↓hv_apply, ↓upO_some, ↓upO_none, ↓ev_tmp, ↓ev_const, ↓ev_func, ↓ev_global, init, Nat.reduceEqDiff, Nat.reduceAdd, Nat.reduceMul, Nat.reduceSub, ↓reduceIte, Int.reduceEq, Int.reduceNe, Nat.reduceLeDiff, one, Value.cells, Int.reduceLE, Int.reduceLT, Int.reduceToNat, add_mk, reduceCtorEq, List.mem_range'_1, true_and, and_true, and_false, false_and, Nat.reduceLT, Nat.reduceLeDiff, tyF]
  have hk9 : ∀ p ∈ keysM W, p.addr.length = 7 := fun p hp => by obtain ⟨u, hu⟩ := mem_keys.1 hp; exact hWo _ hu
  have hkl : (keysM W).length = W.length := by unfold keysM; rw [List.length_map]
  have hsame := ref_same w12 A11 A12 (keysM W) (keysM W) c11 c12 (hA11.more hm12') hA12 hk9 hk9 (by omega) (by omega)
  rw [hkl] at hsame
  rw [hkl]
  refine call_ok Try.call22 hsame ?_
  rintro _ w13 ⟨rfl, hm13⟩
  have hdt : decide (keysM W = keysM W) = true := decide_eq_true rfl
  simp (config := {maxSteps := 1000000}) only [↓zvN, zvU, ↓up_apply, ↓hv_apply, ↓upO_some, ↓upO_none, ↓ev_tmp, ↓ev_const, ↓ev_func, ↓ev_global, init, Nat.reduceEqDiff, Nat.reduceAdd, Nat.reduceMul, Nat.reduceSub, ↓reduceIte, Int.reduceEq, Int.reduceNe, Nat.reduceLeDiff, one, Value.cells, Int.reduceLE, Int.reduceLT, Int.reduceToNat, add_mk, reduceCtorEq, List.mem_range'_1, true_and, and_true, and_false, false_and, Nat.reduceLT, Nat.reduceLeDiff, tyF, hdt]
  have hm313 := ((hm3.trans hm11).trans hm12').trans hm13
  have hT13 := ((hTk.more hm11).more hm12').more hm13
  have hA13 := ((hAW.more hm11).more hm12').more hm13
  refine loop_p (7 :: 9 :: 10 :: 11 :: 12 :: List.range' 55 47) (fun e w' => TxtK l s b t w (e 7) (e 55) w') (fun e _ => l.length - (numOf (e 55)).toNat) ?_ ?_
  · exact ⟨0, W, A, c, by simp only [hv_apply, up_apply, upO_some, upO_none, init, List.mem_cons, List.mem_range'_1, true_and, and_true, and_false, false_and, Nat.reduceLT, Nat.reduceLeDiff, Nat.reduceAdd, true_or, or_true, if_true, if_false, ↓reduceIte, Nat.reduceEqDiff, false_or, or_false, List.not_mem_nil, List.getElem?_cons_zero, List.getElem?_cons_succ, Option.getD_some] <;> rfl, by omega, by simp only [hv_apply, up_apply, upO_some, upO_none, init, List.mem_cons, List.mem_range'_1, true_and, and_true, and_false, false_and, Nat.reduceLT, Nat.reduceLeDiff, Nat.reduceAdd, true_or, or_true, if_true, if_false, ↓reduceIte, Nat.reduceEqDiff, false_or, or_false, List.not_mem_nil, List.getElem?_cons_zero, List.getElem?_cons_succ, Option.getD_some]; exact h7, hWc, hA13, hAb, hWo, hWs, hT13, hsub, hm313⟩
  clear hT13 hA13 hm313 hA11 hA12 hsame hdt hkl hk9
  rintro v' w14 ⟨k', W', A', c', h55, hk', h7', hWc', hAW', hAb', hWo', hWs', hT', hsub', hm14⟩
  simp only [hv_apply, up_apply, upO_some, upO_none, init, List.mem_cons, List.mem_range'_1, true_and, and_true, and_false, false_and, Nat.reduceLT, Nat.reduceLeDiff, Nat.reduceAdd, true_or, or_true, if_true, if_false, ↓reduceIte, Nat.reduceEqDiff, false_or, or_false, List.not_mem_nil, List.getElem?_cons_zero, List.getElem?_cons_succ, Option.getD_some] at h55 h7'
  have ek : IntKind.i64.wrap ((k' : Int) + 1) = ((k' + 1 : Nat) : Int) := w64 (by omega) (by omega)
  have hWl' : W'.length ≤ 64 := by have := hT'.le; simpa using this
  have hbt' := hT'.lt
  simp (config := {maxSteps := 1000000}) only [↓zvN, zvU, ↓up_apply, ↓hv_apply, ↓upO_some, ↓upO_none, ↓ev_tmp, ↓ev_const, ↓ev_func, ↓ev_global, init, Nat.reduceEqDiff, Nat.reduceAdd, Nat.reduceMul, Nat.reduceSub, ↓reduceIte, Int.reduceEq, Int.reduceNe, Nat.reduceLeDiff, one, Value.cells, Int.reduceLE, Int.reduceLT, Int.reduceToNat, add_mk, reduceCtorEq, List.mem_range'_1, true_and, and_true, and_false, false_and, Nat.reduceLT, Nat.reduceLeDiff, tyF, h55]
  refine ⟨fun h9 => ?_, fun h9 => ?_⟩
  rotate_left
  · obtain rfl : k' = l.length := by omega
    have hnil : W' = [] := by
      cases W' with
      | nil => rfl
      | cons e r => have := hsub' e.1 (by simp [keysM]); simp at this
    subst hnil
    try simp (config := {maxSteps := 1000000}) only [↓zvN, zvU, ↓up_apply, ↓hv_apply, ↓upO_some, ↓upO_none, ↓ev_tmp, ↓ev_const, ↓ev_func, ↓ev_global, init, Nat.reduceEqDiff, Nat.reduceAdd, Nat.reduceMul, Nat.reduceSub, ↓reduceIte, Int.reduceEq, Int.reduceNe, Nat.reduceLeDiff, one, Value.cells, Int.reduceLE, Int.reduceLT, Int.reduceToNat, add_mk, reduceCtorEq, List.mem_range'_1, true_and, and_true, and_false, false_and, Nat.reduceLT, Nat.reduceLeDiff, tyF, h55]
    refine call_ok Try.call29 (tab_len_string w14 b t _ 64 hT') ?_
    rintro _ w15 ⟨rfl, rfl⟩
    rw [show ((List.map (txtOf s) ([] : List RE)).length : Int) = 0 from rfl]
    simp (config := {maxSteps := 1000000}) only [↓zvN, zvU, ↓up_apply, ↓hv_apply, ↓upO_some, ↓upO_none, ↓ev_tmp, ↓ev_const, ↓ev_func, ↓ev_global, init, Nat.reduceEqDiff, Nat.reduceAdd, Nat.reduceMul, Nat.reduceSub, ↓reduceIte, Int.reduceEq, Int.reduceNe, Nat.reduceLeDiff, one, Value.cells, Int.reduceLE, Int.reduceLT, Int.reduceToNat, add_mk, reduceCtorEq, List.mem_range'_1, true_and, and_true, and_false, false_and, Nat.reduceLT, Nat.reduceLeDiff, tyF]
    refine call_ok Try.call26 (tab_all_string w15 b t _ 64 hT') ?_
    rintro _ w16 ⟨A16, c16, rfl, hA16, _, hm16⟩
    rw [show (keysM (List.map (txtOf s) ([] : List RE))).length = 0 from rfl]
    simp (config := {maxSteps := 1000000}) only [↓zvN, zvU, ↓up_apply, ↓hv_apply, ↓upO_some, ↓upO_none, ↓ev_tmp, ↓ev_const, ↓ev_func, ↓ev_global, init, Nat.reduceEqDiff, Nat.reduceAdd, Nat.reduceMul, Nat.reduceSub, ↓reduceIte, Int.reduceEq, Int.reduceNe, Nat.reduceLeDiff, one, Value.cells, Int.reduceLE, Int.reduceLT, Int.reduceToNat, add_mk, reduceCtorEq, List.mem_range'_1, true_and, and_true, and_false, false_and, Nat.reduceLT, Nat.reduceLeDiff, tyF]
    exact ⟨rfl, hm14.trans hm16⟩
  obtain ⟨a, ha⟩ := row_nat l k' (by omega)
  obtain ⟨ad, rfl⟩ := hA0.some_of (by rw [row_len l hlens]; omega)
  have hap := hO a (List.mem_of_getElem? ha)
  have rd := (hA0.more hm14).rowEq hlens ha
  have g0 : (0 : Int) ≤ (k' : Int) := by omega
  simp (config := {maxSteps := 1000000}) only [↓zvN, zvU, ↓up_apply, ↓hv_apply, ↓upO_some, ↓upO_none, ↓ev_tmp, ↓ev_const, ↓ev_func, ↓ev_global, init, Nat.reduceEqDiff, Nat.reduceAdd, Nat.reduceMul, Nat.reduceSub, ↓reduceIte, Int.reduceEq, Int.reduceNe, Nat.reduceLeDiff, one, Value.cells, Int.reduceLE, Int.reduceLT, Int.reduceToNat, add_mk, reduceCtorEq, List.mem_range'_1, true_and, and_true, and_false, false_and, Nat.reduceLT, Nat.reduceLeDiff, tyF, h55, h7', g0, h9, rd, Int.toNat_natCast]
  refine call_ok Try.call27 (tab_get_string w14 b t _ 64 a hap hT') ?_
  rintro v15 w15 ⟨hG1, hG2, hm15⟩
  have hm15' := hm14.trans hm15
  have rd := (hA0.more hm15').rowEq hlens ha
  have hT15 := hT'.more hm15
  have hA15 := hAW'.more hm15
  have hgm : getL (W'.map (txtOf s)) a = (getL W' a).map fun _ => [Value.string s] := get_map (fun _ => [Value.string s]) W' a
  have tt : (true == true) = true := rfl
  have ff : (false == false) = true := rfl
  have hdrop : l.drop k' = a :: l.drop (k' + 1) := by
    rw [List.drop_eq_getElem_cons (by omega)]
    congr 1
    rw [List.getElem?_eq_getElem (by omega)] at ha
    exact Option.some.inj ha
  have hsubd : ∀ q ∈ keysM (delL W' a), q ∈ l.drop (k' + 1) := by
    intro q hq
    obtain ⟨u, hu⟩ := mem_keys.1 hq
    obtain ⟨h1, h2⟩ := mem_delL.1 hu
    have := hsub' q (mem_keys.2 ⟨u, h2⟩)
    rw [hdrop] at this
    rcases List.mem_cons.1 this with h3 | h3
    · exact absurd h3 h1
    · exact h3
  have hpl : delL (W'.map (txtOf s)) a = (delL W' a).map (txtOf s) := del_map (fun _ => [Value.string s]) W' a
  by_cases hin : a ∈ keysM W'
  · obtain ⟨i, hi, hil, e, he, hep⟩ := idx_get hin
    rw [get_some hWs' (show (a, e.2) ∈ W' by rw [← hep]; exact List.mem_of_getElem? he)] at hgm
    obtain rfl := hG2 _ hgm
    have i0 : (0 : Int) ≤ (i : Int) := by omega
    simp (config := {maxSteps := 1000000}) only [↓zvN, zvU, ↓up_apply, ↓hv_apply, ↓upO_some, ↓upO_none, ↓ev_tmp, ↓ev_const, ↓ev_func, ↓ev_global, init, Nat.reduceEqDiff, Nat.reduceAdd, Nat.reduceMul, Nat.reduceSub, ↓reduceIte, Int.reduceEq, Int.reduceNe, Nat.reduceLeDiff, one, Value.cells, Int.reduceLE, Int.reduceLT, Int.reduceToNat, add_mk, reduceCtorEq, List.mem_range'_1, true_and, and_true, and_false, false_and, Nat.reduceLT, Nat.reduceLeDiff, tyF, h55, h7', g0, h9, rd, Int.toNat_natCast]
    refine call_ok Try.call19 (ref_find w15 A' W' c' a hap hA15 hWo' (by omega)) ?_
    rintro _ w16 ⟨rfl, hm16⟩
    have hm16' := hm15'.trans hm16
    have rd := (hA0.more hm16').rowEq hlens ha
    simp (config := {maxSteps := 1000000}) only [↓zvN, zvU, ↓up_apply, ↓hv_apply, ↓upO_some, ↓upO_none, ↓ev_tmp, ↓ev_const, ↓ev_func, ↓ev_global, init, Nat.reduceEqDiff, Nat.reduceAdd, Nat.reduceMul, Nat.reduceSub, ↓reduceIte, Int.reduceEq, Int.reduceNe, Nat.reduceLeDiff, one, Value.cells, Int.reduceLE, Int.reduceLT, Int.reduceToNat, add_mk, reduceCtorEq, List.mem_range'_1, true_and, and_true, and_false, false_and, Nat.reduceLT, Nat.reduceLeDiff, tyF, h55, h7', g0, h9, rd, hi, i0, tt, ff, Int.toNat_natCast]
    refine call_ok Try.call28 (tab_del_string w16 b t _ 64 a hap (hT15.more hm16) (by omega)) ?_
    rintro _ w17 ⟨rfl, hT17, hm17⟩
    have hm17' := two_more hm16' hm17 (by omega) (by omega)
    have hA17 := hm17.cs (hA15.more hm16) hAb'
    have rd := (hA0.more hm17').rowEq hlens ha
    rw [hpl] at hT17
    have hdk : decide (a ∈ keysM (W'.map (txtOf s))) = true := by
      have hmem : a ∈ keysM (W'.map (txtOf s)) ↔ a ∈ keysM W' := by rw [keys_txt]
      simp [hmem, hin]
    rw [hdk]
    simp (config := {maxSteps := 1000000}) only [↓zvN, zvU, ↓up_apply, ↓hv_apply, ↓upO_some, ↓upO_none, ↓ev_tmp, ↓ev_const, ↓ev_func, ↓ev_global, init, Nat.reduceEqDiff, Nat.reduceAdd, Nat.reduceMul, Nat.reduceSub, ↓reduceIte, Int.reduceEq, Int.reduceNe, Nat.reduceLeDiff, one, Value.cells, Int.reduceLE, Int.reduceLT, Int.reduceToNat, add_mk, reduceCtorEq, List.mem_range'_1, true_and, and_true, and_false, false_and, Nat.reduceLT, Nat.reduceLeDiff, tyF, h55, h7', g0, h9, rd, hi, i0, tt, ff, Int.toNat_natCast]
    refine call_ok Try.call21 (ref_del w17 A' W' c' a hap hA17 hWo' hWs' hWc' (by omega)) ?_
    rintro _ w18 ⟨A9, c9, rfl, hc9, hA9, hAA, hm18⟩
    have hT18 := hT17.more hm18
    have hWo9 : ReOk (delL W' a) := hWo'.del a
    have hWs9 : SortedM (delL W' a) := hWs'.del a
    obtain ⟨W9, hW9⟩ : ∃ W9, delL W' a = W9 := ⟨_, rfl⟩
    rw [hW9] at hT18 hA9 hc9 hWo9 hWs9 hsubd ⊢
    have hAb9 : ∀ x, A9 = some x → ¬ two b t x.block := by
      intro x hx
      rcases hAA with h | h
      · exact hAb' x (by rw [← h]; exact hx)
      · have h1 := h x hx
        have h2 := hm15.size
        have h3 := hm16.size
        have h4 := hm17.size
        rintro (h' | h') <;> omega
    simp (config := {maxSteps := 1000000}) only [↓zvN, zvU, ↓up_apply, ↓hv_apply, ↓upO_some, ↓upO_none, ↓ev_tmp, ↓ev_const, ↓ev_func, ↓ev_global, init, Nat.reduceEqDiff, Nat.reduceAdd, Nat.reduceMul, Nat.reduceSub, ↓reduceIte, Int.reduceEq, Int.reduceNe, Nat.reduceLeDiff, one, Value.cells, Int.reduceLE, Int.reduceLT, Int.reduceToNat, add_mk, reduceCtorEq, List.mem_range'_1, true_and, and_true, and_false, false_and, Nat.reduceLT, Nat.reduceLeDiff, tyF, h55, ek]
    refine ⟨⟨?_, k' + 1, W9, A9, c9, rfl, by omega, rfl, hc9, hA9, hAb9, hWo9, hWs9, hT18, hsubd, hm17'.trans hm18⟩, by simp only [numOf]; omega⟩
    repeat (first | exact Same.hv _ _ _ | refine Same.hv2 (fun s hs => mem_of_all (by decide) hs) ?_ | refine Same.up (by simp) ?_)
  · have hgn := get_none hin
    rw [hgn] at hgm
    obtain rfl := hG1 hgm
    have hi : idxL a W' 0 = -1 := by
      rcases idx_neg (p := a) W' 0 with h | ⟨i, _, _, e, he, hep⟩
      · exact h
      · exact absurd (mem_keys.2 ⟨e.2, by rw [← hep]; exact List.mem_of_getElem? he⟩) hin
    have i0 : ¬ (0 : Int) ≤ -1 := by omega
    simp (config := {maxSteps := 1000000}) only [↓zvN, zvU, ↓up_apply, ↓hv_apply, ↓upO_some, ↓upO_none, ↓ev_tmp, ↓ev_const, ↓ev_func, ↓ev_global, init, Nat.reduceEqDiff, Nat.reduceAdd, Nat.reduceMul, Nat.reduceSub, ↓reduceIte, Int.reduceEq, Int.reduceNe, Nat.reduceLeDiff, one, Value.cells, Int.reduceLE, Int.reduceLT, Int.reduceToNat, add_mk, reduceCtorEq, List.mem_range'_1, true_and, and_true, and_false, false_and, Nat.reduceLT, Nat.reduceLeDiff, tyF, h55, h7', g0, h9, rd, Int.toNat_natCast]
    refine call_ok Try.call19 (ref_find w15 A' W' c' a hap hA15 hWo' (by omega)) ?_
    rintro _ w16 ⟨rfl, hm16⟩
    have hm16' := hm15'.trans hm16
    have rd := (hA0.more hm16').rowEq hlens ha
    simp (config := {maxSteps := 1000000}) only [↓zvN, zvU, ↓up_apply, ↓hv_apply, ↓upO_some, ↓upO_none, ↓ev_tmp, ↓ev_const, ↓ev_func, ↓ev_global, init, Nat.reduceEqDiff, Nat.reduceAdd, Nat.reduceMul, Nat.reduceSub, ↓reduceIte, Int.reduceEq, Int.reduceNe, Nat.reduceLeDiff, one, Value.cells, Int.reduceLE, Int.reduceLT, Int.reduceToNat, add_mk, reduceCtorEq, List.mem_range'_1, true_and, and_true, and_false, false_and, Nat.reduceLT, Nat.reduceLeDiff, tyF, h55, h7', g0, h9, rd, hi, i0, tt, ff, Int.toNat_natCast]
    refine call_ok Try.call28 (tab_del_string w16 b t _ 64 a hap (hT15.more hm16) (by omega)) ?_
    rintro _ w17 ⟨rfl, hT17, hm17⟩
    have hm17' := two_more hm16' hm17 (by omega) (by omega)
    have hA17 := hm17.cs (hA15.more hm16) hAb'
    have rd := (hA0.more hm17').rowEq hlens ha
    rw [hpl] at hT17
    have hdk : decide (a ∈ keysM (W'.map (txtOf s))) = false := by
      have hmem : a ∈ keysM (W'.map (txtOf s)) ↔ a ∈ keysM W' := by rw [keys_txt]
      simp [hmem, hin]
    rw [hdk]
    simp (config := {maxSteps := 1000000}) only [↓zvN, zvU, ↓up_apply, ↓hv_apply, ↓upO_some, ↓upO_none, ↓ev_tmp, ↓ev_const, ↓ev_func, ↓ev_global, init, Nat.reduceEqDiff, Nat.reduceAdd, Nat.reduceMul, Nat.reduceSub, ↓reduceIte, Int.reduceEq, Int.reduceNe, Nat.reduceLeDiff, one, Value.cells, Int.reduceLE, Int.reduceLT, Int.reduceToNat, add_mk, reduceCtorEq, List.mem_range'_1, true_and, and_true, and_false, false_and, Nat.reduceLT, Nat.reduceLeDiff, tyF, h55, h7', g0, h9, rd, hi, i0, tt, ff, Int.toNat_natCast]
    refine call_ok Try.call21 (ref_del w17 A' W' c' a hap hA17 hWo' hWs' hWc' (by omega)) ?_
    rintro _ w18 ⟨A9, c9, rfl, hc9, hA9, hAA, hm18⟩
    have hT18 := hT17.more hm18
    have hWo9 : ReOk (delL W' a) := hWo'.del a
    have hWs9 : SortedM (delL W' a) := hWs'.del a
    obtain ⟨W9, hW9⟩ : ∃ W9, delL W' a = W9 := ⟨_, rfl⟩
    rw [hW9] at hT18 hA9 hc9 hWo9 hWs9 hsubd ⊢
    have hAb9 : ∀ x, A9 = some x → ¬ two b t x.block := by
      intro x hx
      rcases hAA with h | h
      · exact hAb' x (by rw [← h]; exact hx)
      · have h1 := h x hx
        have h2 := hm15.size
        have h3 := hm16.size
        have h4 := hm17.size
        rintro (h' | h') <;> omega
    simp (config := {maxSteps := 1000000}) only [↓zvN, zvU, ↓up_apply, ↓hv_apply, ↓upO_some, ↓upO_none, ↓ev_tmp, ↓ev_const, ↓ev_func, ↓ev_global, init, Nat.reduceEqDiff, Nat.reduceAdd, Nat.reduceMul, Nat.reduceSub, ↓reduceIte, Int.reduceEq, Int.reduceNe, Nat.reduceLeDiff, one, Value.cells, Int.reduceLE, Int.reduceLT, Int.reduceToNat, add_mk, reduceCtorEq, List.mem_range'_1, true_and, and_true, and_false, false_and, Nat.reduceLT, Nat.reduceLeDiff, tyF, h55, ek]
    refine ⟨⟨?_, k' + 1, W9, A9, c9, rfl, by omega, rfl, hc9, hA9, hAb9, hWo9, hWs9, hT18, hsubd, hm17'.trans hm18⟩, by simp only [numOf]; omega⟩
    repeat (first | exact Same.hv _ _ _ | refine Same.hv2 (fun s hs => mem_of_all (by decide) hs) ?_ | refine Same.up (by simp) ?_)
end Go.Proofs.Ytimhcjakpdebjaa
