/-
  Layer 21: whatever is put and taken away (TablePlays).
-/
import Derived.Test.YtimhcjakpdebjaaLaw21F
import Derived.Test.YtimhcjakpdebjaaTabN
namespace Go.Proofs.Ytimhcjakpdebjaa
open Go Go.RowKit Go.Proofs.RV
set_option linter.unusedSimpArgs false
set_option linter.unusedVariables false
set_option maxRecDepth 10000
set_option maxHeartbeats 4000000
/-- something that is done -/
structure Act21 where
  kind : Int
  p : PrefM
  n : Int
def Act21.cells (a : Act21) : List Value := .int .u8 a.kind :: (a.p.cells ++ [.int .i64 a.n])
def Act21.Fit (a : Act21) : Prop := a.p.addr.length = 7 ∧ 0 ≤ a.kind ∧ a.kind < 256
theorem Act21.len {a : Act21} (h : a.Fit) : a.cells.length = 10 := by simp [Act21.cells, PrefM.cells, h.1]
theorem Act21.one (a : Act21) : ∀ u ∈ a.cells, u.oneCell' = true := by
  intro u hu
  simp only [Act21.cells, List.mem_cons, List.mem_append, List.not_mem_nil, or_false] at hu
  rcases hu with rfl | hu | rfl
  · rfl
  · exact PrefM.one _ u hu
  · rfl
theorem acts_in {w : World} {k : Nat} {cs : List Value} (h : Lays Try.prog w k 38 cs) :
    ∃ (A : Option Addr) (l : List Act21) (c : Nat), cs = [.slice A l.length c] ∧ l.length ≤ c ∧ Cs w A (l.flatMap Act21.cells) ∧ (∀ a ∈ l, a.cells.length = 10) ∧ ∀ a ∈ l, a.Fit := by
  refine h.rowOf Try.underlying38 cells43 (by omega) _ fun k cs' h' hl => ?_
  obtain ⟨_, f0⟩ := h'.fieldAt Try.underlying43 0 5 0 rfl cells5
  obtain ⟨_, f1⟩ := h'.fieldAt Try.underlying43 1 24 1 rfl cells24
  obtain ⟨_, f2⟩ := h'.fieldAt Try.underlying43 2 3 9 rfl cells3
  obtain ⟨x, e0, r0⟩ := f0.int Try.underlying5
  obtain ⟨p, e1, hp⟩ := pref_in f1
  obtain ⟨y, e2, _⟩ := f2.int Try.underlying3
  refine ⟨⟨x, p, y⟩, ?_, hp, ?_⟩
  · have e : cs' = [Value.int .u8 x] ++ (p.cells ++ [.int .i64 y]) := by
      rw [← e0, ← e1, ← e2]
      conv => lhs; rw [← List.drop_zero (l := cs'), cut_at _ 0 1, cut_at _ (0 + 1) 8, cut_at _ (0 + 1 + 8) 1]
      rw [List.drop_eq_nil_of_le (i := 0 + 1 + 8 + 1) (by omega), List.append_nil]
    rw [e]
    rfl
  · simp [IntKind.min, IntKind.max, IntKind.signed, IntKind.bits] at r0
    exact ⟨r0.1, by show x < 256; omega⟩
theorem zerAct : zer Try.prog 43 = some (.agg (Act21.mk 0 prefZ 0).cells.toArray) := by rw [zer43]; rfl
def entOf (e : RE) : EntM := (e.1, [.int .i64 e.2])
theorem ent_map (W : List RE) : W.map entOf = W.map fun e => (e.1, (fun x => [Value.int .i64 x]) e.2) := rfl
theorem keys_ent (W : List RE) : keysM (W.map entOf) = keysM W := keys_map (fun x => [Value.int .i64 x]) W
theorem ReOk.put {W : List RE} (h : ReOk W) {p : PrefM} (hp : p.addr.length = 7) (x : Int) : ReOk (putL W p x) := by
  intro e he
  rcases mem_putL.1 (show (e.1, e.2) ∈ putL W p x from he) with ⟨h1, _⟩ | ⟨_, h1⟩
  · rw [h1]; exact hp
  · exact h e h1
theorem ReOk.del {W : List RE} (h : ReOk W) (p : PrefM) : ReOk (delL W p) := fun e he => h e (List.mem_filter.1 he).1
def PlayJ (l : List Act21) (room b t : Nat) (w : World) (v7 v68 : Value) (w' : World) : Prop :=
  ∃ (k : Nat) (W : List RE) (A : Option Addr) (c : Nat), v68 = .int .i64 k ∧ k ≤ l.length ∧ v7 = .slice A W.length c ∧ W.length ≤ c ∧ Cs w' A (W.flatMap reC) ∧ (∀ a, A = some a → ¬ two b t a.block) ∧ ReOk W ∧ SortedM W ∧ TabA_int w' b t (W.map entOf) room ∧ More w w'
def PlayK (n : Nat) (w : World) (v160 : Value) (w' : World) : Prop := ∃ k : Nat, v160 = .int .i64 k ∧ k ≤ n ∧ More w w'
theorem mem_of_all {M M2 : List Nat} (hs : M2.all (M.contains ·) = true) {s : Nat} (h : s ∈ M2) : s ∈ M := by simpa using List.all_eq_true.1 hs s h
theorem table_plays (w : World) (room : Int) (A0 : Option Addr) (l : List Act21) (c0 : Nat) (hA0 : Cs w A0 (l.flatMap Act21.cells)) (hO : ∀ a ∈ l, a.Fit) :
    Ret Try.prog 5 #[.int .i64 room, .slice A0 l.length c0] w fun v w' => v = .bool true ∧ More w w' := by
  refine ret_of Try.func5 rfl (by kernel_rfl) (Nat.le_of_ble_eq_true (by kernel_rfl)) ?_
  simp (config := {maxSteps := 1000000}) only [↓zvN, zvU, ↓up_apply, ↓hv_apply, ↓upO_some, ↓upO_none, ↓ev_tmp, ↓ev_const, ↓ev_func, ↓ev_global, init, Nat.reduceEqDiff, Nat.reduceAdd, Nat.reduceMul, Nat.reduceSub, ↓reduceIte, Int.reduceEq, Int.reduceNe, Nat.reduceLeDiff, one, Value.cells, Int.reduceLE, Int.reduceLT, Int.reduceToNat, add_mk, reduceCtorEq, List.mem_range'_1, true_and, and_true, and_false, false_and, Nat.reduceLT, Nat.reduceLeDiff, tyF]
  refine call_ok Try.call10 (awake21 _) ?_
  rintro _ w1 ⟨rfl, hm1⟩
  by_cases h200 : (200 : Int) < (l.length : Int)
  · simp (config := {maxSteps := 1000000}) only [↓zvN, zvU, ↓up_apply, ↓hv_apply, ↓upO_some, ↓upO_none, ↓ev_tmp, ↓ev_const, ↓ev_func, ↓ev_global, init, Nat.reduceEqDiff, Nat.reduceAdd, Nat.reduceMul, Nat.reduceSub, ↓reduceIte, Int.reduceEq, Int.reduceNe, Nat.reduceLeDiff, one, Value.cells, Int.reduceLE, Int.reduceLT, Int.reduceToNat, add_mk, reduceCtorEq, List.mem_range'_1, true_and, and_true, and_false, false_and, Nat.reduceLT, Nat.reduceLeDiff, tyF, h200]
    refine call_ok Try.call10 (awake21 _) ?_
    rintro _ w2 ⟨rfl, hm2⟩
    simp (config := {maxSteps := 1000000}) only [↓zvN, zvU, ↓up_apply, ↓hv_apply, ↓upO_some, ↓upO_none, ↓ev_tmp, ↓ev_const, ↓ev_func, ↓ev_global, init, Nat.reduceEqDiff, Nat.reduceAdd, Nat.reduceMul, Nat.reduceSub, ↓reduceIte, Int.reduceEq, Int.reduceNe, Nat.reduceLeDiff, one, Value.cells, Int.reduceLE, Int.reduceLT, Int.reduceToNat, add_mk, reduceCtorEq, List.mem_range'_1, true_and, and_true, and_false, false_and, Nat.reduceLT, Nat.reduceLeDiff, tyF]
    exact ⟨rfl, hm1.trans hm2⟩
  simp (config := {maxSteps := 1000000}) only [↓zvN, zvU, ↓up_apply, ↓hv_apply, ↓upO_some, ↓upO_none, ↓ev_tmp, ↓ev_const, ↓ev_func, ↓ev_global, init, Nat.reduceEqDiff, Nat.reduceAdd, Nat.reduceMul, Nat.reduceSub, ↓reduceIte, Int.reduceEq, Int.reduceNe, Nat.reduceLeDiff, one, Value.cells, Int.reduceLE, Int.reduceLT, Int.reduceToNat, add_mk, reduceCtorEq, List.mem_range'_1, true_and, and_true, and_false, false_and, Nat.reduceLT, Nat.reduceLeDiff, tyF, h200]
  have hl : l.length ≤ 200 := by omega
  by_cases hroom : 1 ≤ room ∧ room ≤ 64
  rotate_left
  · refine call_ok Try.call13 (table_new_int w1 room) ?_
    rintro _ w2 ⟨hm2, _, hno⟩
    obtain rfl := hno hroom
    have hm12 := hm1.trans hm2
    by_cases h1 : room < 1
    · simp (config := {maxSteps := 1000000}) only [↓zvN, zvU, ↓up_apply, ↓hv_apply, ↓upO_some, ↓upO_none, ↓ev_tmp, ↓ev_const, ↓ev_func, ↓ev_global, init, Nat.reduceEqDiff, Nat.reduceAdd, Nat.reduceMul, Nat.reduceSub, ↓reduceIte, Int.reduceEq, Int.reduceNe, Nat.reduceLeDiff, one, Value.cells, Int.reduceLE, Int.reduceLT, Int.reduceToNat, add_mk, reduceCtorEq, List.mem_range'_1, true_and, and_true, and_false, false_and, Nat.reduceLT, Nat.reduceLeDiff, tyF, h1, pref0 w2]
      refine call_ok Try.call14 (put_nil_int w2 prefZ rfl 1) ?_
      rintro _ w3 ⟨rfl, hm3⟩
      simp (config := {maxSteps := 1000000}) only [↓zvN, zvU, ↓up_apply, ↓hv_apply, ↓upO_some, ↓upO_none, ↓ev_tmp, ↓ev_const, ↓ev_func, ↓ev_global, init, Nat.reduceEqDiff, Nat.reduceAdd, Nat.reduceMul, Nat.reduceSub, ↓reduceIte, Int.reduceEq, Int.reduceNe, Nat.reduceLeDiff, one, Value.cells, Int.reduceLE, Int.reduceLT, Int.reduceToNat, add_mk, reduceCtorEq, List.mem_range'_1, true_and, and_true, and_false, false_and, Nat.reduceLT, Nat.reduceLeDiff, tyF]
      refine call_ok Try.call15 (len_nil_int w3) ?_
      rintro _ w4 ⟨rfl, rfl⟩
      simp (config := {maxSteps := 1000000}) only [↓zvN, zvU, ↓up_apply, ↓hv_apply, ↓upO_some, ↓upO_none, ↓ev_tmp, ↓ev_const, ↓ev_func, ↓ev_global, init, Nat.reduceEqDiff, Nat.reduceAdd, Nat.reduceMul, Nat.reduceSub, ↓reduceIte, Int.reduceEq, Int.reduceNe, Nat.reduceLeDiff, one, Value.cells, Int.reduceLE, Int.reduceLT, Int.reduceToNat, add_mk, reduceCtorEq, List.mem_range'_1, true_and, and_true, and_false, false_and, Nat.reduceLT, Nat.reduceLeDiff, tyF]
      refine call_ok Try.call18 (all_nil_int w4) ?_
      rintro _ w5 ⟨rfl, rfl⟩
      simp (config := {maxSteps := 1000000}) only [↓zvN, zvU, ↓up_apply, ↓hv_apply, ↓upO_some, ↓upO_none, ↓ev_tmp, ↓ev_const, ↓ev_func, ↓ev_global, init, Nat.reduceEqDiff, Nat.reduceAdd, Nat.reduceMul, Nat.reduceSub, ↓reduceIte, Int.reduceEq, Int.reduceNe, Nat.reduceLeDiff, one, Value.cells, Int.reduceLE, Int.reduceLT, Int.reduceToNat, add_mk, reduceCtorEq, List.mem_range'_1, true_and, and_true, and_false, false_and, Nat.reduceLT, Nat.reduceLeDiff, tyF, pref0 w5]
      refine call_ok Try.call16 (del_nil_int w5 prefZ rfl) ?_
      rintro _ w6 ⟨rfl, hm6⟩
      simp (config := {maxSteps := 1000000}) only [↓zvN, zvU, ↓up_apply, ↓hv_apply, ↓upO_some, ↓upO_none, ↓ev_tmp, ↓ev_const, ↓ev_func, ↓ev_global, init, Nat.reduceEqDiff, Nat.reduceAdd, Nat.reduceMul, Nat.reduceSub, ↓reduceIte, Int.reduceEq, Int.reduceNe, Nat.reduceLeDiff, one, Value.cells, Int.reduceLE, Int.reduceLT, Int.reduceToNat, add_mk, reduceCtorEq, List.mem_range'_1, true_and, and_true, and_false, false_and, Nat.reduceLT, Nat.reduceLeDiff, tyF]
      exact ⟨rfl, (hm12.trans hm3).trans hm6⟩
    · have h2 : 64 < room := Int.not_le.1 fun h => hroom ⟨Int.not_lt.1 h1, h⟩
      simp (config := {maxSteps := 1000000}) only [↓zvN, zvU, ↓up_apply, ↓hv_apply, ↓upO_some, ↓upO_none, ↓ev_tmp, ↓ev_const, ↓ev_func, ↓ev_global, init, Nat.reduceEqDiff, Nat.reduceAdd, Nat.reduceMul, Nat.reduceSub, ↓reduceIte, Int.reduceEq, Int.reduceNe, Nat.reduceLeDiff, one, Value.cells, Int.reduceLE, Int.reduceLT, Int.reduceToNat, add_mk, reduceCtorEq, List.mem_range'_1, true_and, and_true, and_false, false_and, Nat.reduceLT, Nat.reduceLeDiff, tyF, h1, h2, pref0 w2]
      refine call_ok Try.call14 (put_nil_int w2 prefZ rfl 1) ?_
      rintro _ w3 ⟨rfl, hm3⟩
      simp (config := {maxSteps := 1000000}) only [↓zvN, zvU, ↓up_apply, ↓hv_apply, ↓upO_some, ↓upO_none, ↓ev_tmp, ↓ev_const, ↓ev_func, ↓ev_global, init, Nat.reduceEqDiff, Nat.reduceAdd, Nat.reduceMul, Nat.reduceSub, ↓reduceIte, Int.reduceEq, Int.reduceNe, Nat.reduceLeDiff, one, Value.cells, Int.reduceLE, Int.reduceLT, Int.reduceToNat, add_mk, reduceCtorEq, List.mem_range'_1, true_and, and_true, and_false, false_and, Nat.reduceLT, Nat.reduceLeDiff, tyF]
      refine call_ok Try.call15 (len_nil_int w3) ?_
      rintro _ w4 ⟨rfl, rfl⟩
      simp (config := {maxSteps := 1000000}) only [↓zvN, zvU, ↓up_apply, ↓hv_apply, ↓upO_some, ↓upO_none, ↓ev_tmp, ↓ev_const, ↓ev_func, ↓ev_global, init, Nat.reduceEqDiff, Nat.reduceAdd, Nat.reduceMul, Nat.reduceSub, ↓reduceIte, Int.reduceEq, Int.reduceNe, Nat.reduceLeDiff, one, Value.cells, Int.reduceLE, Int.reduceLT, Int.reduceToNat, add_mk, reduceCtorEq, List.mem_range'_1, true_and, and_true, and_false, false_and, Nat.reduceLT, Nat.reduceLeDiff, tyF]
      refine call_ok Try.call18 (all_nil_int w4) ?_
      rintro _ w5 ⟨rfl, rfl⟩
      simp (config := {maxSteps := 1000000}) only [↓zvN, zvU, ↓up_apply, ↓hv_apply, ↓upO_some, ↓upO_none, ↓ev_tmp, ↓ev_const, ↓ev_func, ↓ev_global, init, Nat.reduceEqDiff, Nat.reduceAdd, Nat.reduceMul, Nat.reduceSub, ↓reduceIte, Int.reduceEq, Int.reduceNe, Nat.reduceLeDiff, one, Value.cells, Int.reduceLE, Int.reduceLT, Int.reduceToNat, add_mk, reduceCtorEq, List.mem_range'_1, true_and, and_true, and_false, false_and, Nat.reduceLT, Nat.reduceLeDiff, tyF, pref0 w5]
      refine call_ok Try.call16 (del_nil_int w5 prefZ rfl) ?_
      rintro _ w6 ⟨rfl, hm6⟩
      simp (config := {maxSteps := 1000000}) only [↓zvN, zvU, ↓up_apply, ↓hv_apply, ↓upO_some, ↓upO_none, ↓ev_tmp, ↓ev_const, ↓ev_func, ↓ev_global, init, Nat.reduceEqDiff, Nat.reduceAdd, Nat.reduceMul, Nat.reduceSub, ↓reduceIte, Int.reduceEq, Int.reduceNe, Nat.reduceLeDiff, one, Value.cells, Int.reduceLE, Int.reduceLT, Int.reduceToNat, add_mk, reduceCtorEq, List.mem_range'_1, true_and, and_true, and_false, false_and, Nat.reduceLT, Nat.reduceLeDiff, tyF]
      exact ⟨rfl, (hm12.trans hm3).trans hm6⟩
  obtain ⟨r, rfl⟩ := Int.eq_ofNat_of_zero_le (show 0 ≤ room by omega)
  refine call_ok Try.call13 (tab_new_int w1 r (by omega) (by omega)) ?_
  rintro _ w2 ⟨b, t, rfl, hb, ht, hT, hm2⟩
  have hm12 := hm1.trans hm2
  have hsz := hm1.size
  have g1 : ¬ (r : Int) < 1 := by omega
  have g2 : ¬ (64 : Int) < (r : Int) := by omega
  simp (config := {maxSteps := 1000000}) only [↓zvN, zvU, ↓up_apply, ↓hv_apply, ↓upO_some, ↓upO_none, ↓ev_tmp, ↓ev_const, ↓ev_func, ↓ev_global, init, Nat.reduceEqDiff, Nat.reduceAdd, Nat.reduceMul, Nat.reduceSub, ↓reduceIte, Int.reduceEq, Int.reduceNe, Nat.reduceLeDiff, one, Value.cells, Int.reduceLE, Int.reduceLT, Int.reduceToNat, add_mk, reduceCtorEq, List.mem_range'_1, true_and, and_true, and_false, false_and, Nat.reduceLT, Nat.reduceLeDiff, tyF, g1, g2]
  refine loop_p (7 :: 8 :: 9 :: 10 :: 11 :: 12 :: 13 :: 14 :: 15 :: 16 :: 17 :: List.range' 68 118) (fun e w' => PlayJ l r b t w (e 7) (e 68) w') (fun e _ => l.length - (numOf (e 68)).toNat) ?_ ?_
  · exact ⟨0, [], none, 0, by simp only [hv_apply, up_apply, upO_some, upO_none, init, List.mem_cons, List.mem_range'_1, true_and, and_true, and_false, false_and, Nat.reduceLT, Nat.reduceLeDiff, Nat.reduceAdd, true_or, or_true, if_true, if_false, ↓reduceIte, Nat.reduceEqDiff, false_or, or_false, List.not_mem_nil, List.getElem?_cons_zero, List.getElem?_cons_succ, Option.getD_some] <;> rfl, by omega, by simp only [hv_apply, up_apply, upO_some, upO_none, init, List.mem_cons, List.mem_range'_1, true_and, and_true, and_false, false_and, Nat.reduceLT, Nat.reduceLeDiff, Nat.reduceAdd, true_or, or_true, if_true, if_false, ↓reduceIte, Nat.reduceEqDiff, false_or, or_false, List.not_mem_nil, List.getElem?_cons_zero, List.getElem?_cons_succ, Option.getD_some] <;> rfl, Nat.le_refl _, Cs.nil _ _, (fun a ha => by cases ha), (fun e he => by cases he), List.Pairwise.nil, hT, hm12⟩
  rintro v w3 ⟨k, W, A, c, h68, hk, h7, hWc, hAW, hAb, hWo, hWs, hTk, hm3⟩
  simp only [hv_apply, up_apply, upO_some, upO_none, init, List.mem_cons, List.mem_range'_1, true_and, and_true, and_false, false_and, Nat.reduceLT, Nat.reduceLeDiff, Nat.reduceAdd, true_or, or_true, if_true, if_false, ↓reduceIte, Nat.reduceEqDiff, false_or, or_false, List.not_mem_nil, List.getElem?_cons_zero, List.getElem?_cons_succ, Option.getD_some] at h68 h7
  have ek : IntKind.i64.wrap ((k : Int) + 1) = ((k + 1 : Nat) : Int) := w64 (by omega) (by omega)
  simp (config := {maxSteps := 1000000}) only [↓zvN, zvU, ↓up_apply, ↓hv_apply, ↓upO_some, ↓upO_none, ↓ev_tmp, ↓ev_const, ↓ev_func, ↓ev_global, init, Nat.reduceEqDiff, Nat.reduceAdd, Nat.reduceMul, Nat.reduceSub, ↓reduceIte, Int.reduceEq, Int.reduceNe, Nat.reduceLeDiff, one, Value.cells, Int.reduceLE, Int.reduceLT, Int.reduceToNat, add_mk, reduceCtorEq, List.mem_range'_1, true_and, and_true, and_false, false_and, Nat.reduceLT, Nat.reduceLeDiff, tyF, h68]
  refine ⟨fun h9 => ?_, fun h9 => ?_⟩
  rotate_left
  · try simp (config := {maxSteps := 1000000}) only [↓zvN, zvU, ↓up_apply, ↓hv_apply, ↓upO_some, ↓upO_none, ↓ev_tmp, ↓ev_const, ↓ev_func, ↓ev_global, init, Nat.reduceEqDiff, Nat.reduceAdd, Nat.reduceMul, Nat.reduceSub, ↓reduceIte, Int.reduceEq, Int.reduceNe, Nat.reduceLeDiff, one, Value.cells, Int.reduceLE, Int.reduceLT, Int.reduceToNat, add_mk, reduceCtorEq, List.mem_range'_1, true_and, and_true, and_false, false_and, Nat.reduceLT, Nat.reduceLeDiff, tyF]
    exact ⟨rfl, hm3⟩
  have hlens : ∀ a ∈ l, a.cells.length = 10 := fun a ha => Act21.len (hO a ha)
  obtain ⟨a, ha⟩ := row_nat l k (by omega)
  obtain ⟨ad, rfl⟩ := hA0.some_of (by rw [row_len l hlens]; omega)
  have haf := hO a (List.mem_of_getElem? ha)
  have rd := (hA0.more hm3).rowEq hlens ha
  have g0 : (0 : Int) ≤ (k : Int) := by omega
  simp (config := {maxSteps := 1000000}) only [↓zvN, zvU, ↓up_apply, ↓hv_apply, ↓upO_some, ↓upO_none, ↓ev_tmp, ↓ev_const, ↓ev_func, ↓ev_global, init, Nat.reduceEqDiff, Nat.reduceAdd, Nat.reduceMul, Nat.reduceSub, ↓reduceIte, Int.reduceEq, Int.reduceNe, Nat.reduceLeDiff, one, Value.cells, Int.reduceLE, Int.reduceLT, Int.reduceToNat, add_mk, reduceCtorEq, List.mem_range'_1, true_and, and_true, and_false, false_and, Nat.reduceLT, Nat.reduceLeDiff, tyF, h68, h7, g0, h9, rd, Int.toNat_natCast, zerAct]
  have hm4 := more_alloc w3 (.cells (Act21.mk 0 prefZ 0).cells.toArray 43)
  have hb4 := Blk.new w3 43 (Act21.mk 0 prefZ 0).cells.toArray
  obtain ⟨w4, hw4⟩ : ∃ w4, w3.alloc (.cells (Act21.mk 0 prefZ 0).cells.toArray 43) = w4 := ⟨_, rfl⟩
  rw [hw4] at hm4 hb4 ⊢
  clear hw4
  refine st_all hb4 (by simpa using Act21.len haf) rfl (by simpa using Act21.one a) fun w5 j1 j2 => ?_
  rw [s2_undef]
  rw [List.toList_toArray] at j2
  have hm5 : More w3 w5 := more_but hm4 (But.of_wr j1) (Nat.le_refl _)
  obtain ⟨ab, hab⟩ : ∃ q, w3.heap.size = q := ⟨_, rfl⟩
  rw [hab] at j2 ⊢
  have hm35 := hm3.trans hm5
  have hT5 := hTk.more hm5
  have hbt := hTk.lt
  have hno : ¬ two b t ab := by rintro (h | h) <;> omega
  have d0 : ∀ {w' : World}, Blk w' ab 43 a.cells → w'.cell? ⟨ab, 0, none⟩ = some (.int .u8 a.kind) := fun h => by rw [h.cell]; rfl
  have h8 : a.p.cells.length = 8 := by simp [PrefM.cells, haf.1]
  have d1 : ∀ {w' : World}, Blk w' ab 43 a.cells → ∀ K : Value → Prop, ldRow 8 ⟨ab, 1, none⟩ w' K = K (.agg a.p.cells.toArray) := fun h K => by
    rw [h.row_eq 1 8 (by rw [Act21.len haf]; omega)]
    congr 2
    simp only [Act21.cells, List.drop_succ_cons, List.drop_zero]
    rw [List.take_append_of_le_length (by omega), List.take_of_length_le (by omega)]
  have d9 : ∀ {w' : World}, Blk w' ab 43 a.cells → w'.cell? ⟨ab, 9, none⟩ = some (.int .i64 a.n) := fun h => by
    rw [h.cell, Act21.cells, List.getElem?_cons_succ, List.getElem?_append_right (by omega), h8]
    rfl
  have hWl : W.length ≤ r := by have := hTk.le; simpa using this
  have e1 := d1 j2
  simp (config := {maxSteps := 1000000}) only [↓zvN, zvU, ↓up_apply, ↓hv_apply, ↓upO_some, ↓upO_none, ↓ev_tmp, ↓ev_const, ↓ev_func, ↓ev_global, init, Nat.reduceEqDiff, Nat.reduceAdd, Nat.reduceMul, Nat.reduceSub, ↓reduceIte, Int.reduceEq, Int.reduceNe, Nat.reduceLeDiff, one, Value.cells, Int.reduceLE, Int.reduceLT, Int.reduceToNat, add_mk, reduceCtorEq, List.mem_range'_1, true_and, and_true, and_false, false_and, Nat.reduceLT, Nat.reduceLeDiff, tyF, h7, e1]
  refine call_ok Try.call19 (ref_find w5 A W c a.p haf.1 (hAW.more hm5) hWo (by omega)) ?_
  rintro _ w6 ⟨rfl, hm6⟩
  have j6 := j2.more hm6
  have e1 := d1 j6
  simp (config := {maxSteps := 1000000}) only [↓zvN, zvU, ↓up_apply, ↓hv_apply, ↓upO_some, ↓upO_none, ↓ev_tmp, ↓ev_const, ↓ev_func, ↓ev_global, init, Nat.reduceEqDiff, Nat.reduceAdd, Nat.reduceMul, Nat.reduceSub, ↓reduceIte, Int.reduceEq, Int.reduceNe, Nat.reduceLeDiff, one, Value.cells, Int.reduceLE, Int.reduceLT, Int.reduceToNat, add_mk, reduceCtorEq, List.mem_range'_1, true_and, and_true, and_false, false_and, Nat.reduceLT, Nat.reduceLeDiff, tyF, h7, e1]
  have hT6 := hT5.more hm6
  have hm36 := hm35.trans hm6
  refine call_ok Try.call17 (tab_get_int w6 b t (W.map entOf) r a.p haf.1 hT6) ?_
  rintro v7 w7 ⟨hG1, hG2, hm7⟩
  have j7 := j6.more hm7
  have hT7 := hT6.more hm7
  have hm37 := hm36.trans hm7
  have hA7 := ((hAW.more hm5).more hm6).more hm7
  have tt : (true == true) = true := rfl
  have ff : (false == false) = true := rfl
  have hgm : getL (W.map entOf) a.p = (getL W a.p).map fun x => [Value.int .i64 x] := get_map (fun x => [Value.int .i64 x]) W a.p
  have e0 := d0 j7
  have wk : IntKind.u8.wrap (Int.tmod a.kind 3) = Int.tmod a.kind 3 := by
    have h0 := haf.2.1
    rw [Int.tmod_eq_emod_of_nonneg h0]
    exact wu8 (by omega) (by omega)
  by_cases hin : a.p ∈ keysM W
  · obtain ⟨i, hi, hil, e, he, hep⟩ := idx_get hin
    have hge : getL W a.p = some e.2 := get_some hWs (by rw [← hep]; exact List.mem_of_getElem? he)
    rw [hge] at hgm
    obtain rfl := hG2 _ hgm
    have i0 : (0 : Int) ≤ (i : Int) := by omega
    have i1 : (i : Int) < (W.length : Int) := by omega
    obtain ⟨aw, rfl⟩ := hA7.some_of (by rw [row_len W hWo.lens]; omega)
    have cw : w7.cell? ((aw.add (i * 9)).add 8) = some (.int .i64 e.2) := by
      rw [hA7.elemA hWo.lens he (by omega), reC, List.getElem?_append_right (by simp [PrefM.cells, hWo e (List.mem_of_getElem? he)])]
      simp [PrefM.cells, hWo e (List.mem_of_getElem? he)]
    have hidx := hi
    by_cases hk2 : Int.tmod a.kind 3 < 2
    · simp (config := {maxSteps := 1000000}) only [↓zvN, zvU, ↓up_apply, ↓hv_apply, ↓upO_some, ↓upO_none, ↓ev_tmp, ↓ev_const, ↓ev_func, ↓ev_global, init, Nat.reduceEqDiff, Nat.reduceAdd, Nat.reduceMul, Nat.reduceSub, ↓reduceIte, Int.reduceEq, Int.reduceNe, Nat.reduceLeDiff, one, Value.cells, Int.reduceLE, Int.reduceLT, Int.reduceToNat, add_mk, reduceCtorEq, List.mem_range'_1, true_and, and_true, and_false, false_and, Nat.reduceLT, Nat.reduceLeDiff, tyF, h7, hi, i0, i1, tt, ff, cw, e0, hk2, wk, Int.toNat_natCast]
      have e1 := d1 j7
      have e9 := d9 j7
      simp (config := {maxSteps := 1000000}) only [↓zvN, zvU, ↓up_apply, ↓hv_apply, ↓upO_some, ↓upO_none, ↓ev_tmp, ↓ev_const, ↓ev_func, ↓ev_global, init, Nat.reduceEqDiff, Nat.reduceAdd, Nat.reduceMul, Nat.reduceSub, ↓reduceIte, Int.reduceEq, Int.reduceNe, Nat.reduceLeDiff, one, Value.cells, Int.reduceLE, Int.reduceLT, Int.reduceToNat, add_mk, reduceCtorEq, List.mem_range'_1, true_and, and_true, and_false, false_and, Nat.reduceLT, Nat.reduceLeDiff, tyF, h7, e1, e9]
      refine call_ok Try.call14 (tab_put_int w7 b t (W.map entOf) r a.p a.n haf.1 hT7 (by omega)) ?_
      rintro _ w8 ⟨rfl, hT8, hm8⟩
      have j8 := hm8.blk j7 hno
      have hA8 := hm8.cs hA7 hAb
      have e1 := d1 j8
      have e9 := d9 j8
      have hm38 := two_more hm37 hm8 (by omega) (by omega)
      have hpk : putOk (W.map entOf) r a.p = decide (a.p ∈ keysM W ∨ W.length < r) := by
        have hmem : a.p ∈ keysM (W.map entOf) ↔ a.p ∈ keysM W := by rw [keys_ent]
        unfold putOk
        rw [List.length_map]
        by_cases h1 : a.p ∈ keysM W <;> by_cases h2 : W.length < r <;> simp [hmem, h1, h2]
      have hpl : putA (W.map entOf) r a.p [.int .i64 a.n] = (putR W r a.p a.n).map entOf := by
        unfold putA putR
        rw [hpk]
        by_cases h1 : a.p ∈ keysM W ∨ W.length < r
        · rw [if_pos (decide_eq_true h1), if_pos h1]
          exact put_map (fun x => [Value.int .i64 x]) W a.p a.n
        · rw [if_neg (by simpa using h1), if_neg h1]
      rw [hpl] at hT8
      rw [hpk]
      simp (config := {maxSteps := 1000000}) only [↓zvN, zvU, ↓up_apply, ↓hv_apply, ↓upO_some, ↓upO_none, ↓ev_tmp, ↓ev_const, ↓ev_func, ↓ev_global, init, Nat.reduceEqDiff, Nat.reduceAdd, Nat.reduceMul, Nat.reduceSub, ↓reduceIte, Int.reduceEq, Int.reduceNe, Nat.reduceLeDiff, one, Value.cells, Int.reduceLE, Int.reduceLT, Int.reduceToNat, add_mk, reduceCtorEq, List.mem_range'_1, true_and, and_true, and_false, false_and, Nat.reduceLT, Nat.reduceLeDiff, tyF, h7, e1, e9]
      refine call_ok Try.call20 (ref_put w8 _ W c r a.p a.n haf.1 hA8 hWo hWs hWc (by omega) (by omega)) ?_
      rintro _ w9 ⟨A9, c9, rfl, hc9, hA9, hAA, hm9⟩
      have hT9 := hT8.more hm9
      have hm39 := hm38.trans hm9
      have hWo9 : ReOk (putR W r a.p a.n) := by
        unfold putR
        split
        · exact hWo.put haf.1 a.n
        · exact hWo
      have hWs9 : SortedM (putR W r a.p a.n) := by
        unfold putR
        split
        · exact hWs.put _ _
        · exact hWs
      obtain ⟨W9, hW9⟩ : ∃ W9, putR W r a.p a.n = W9 := ⟨_, rfl⟩
      rw [hW9] at hT9 hA9 hc9 hWo9 hWs9 ⊢
      obtain ⟨ok, hok⟩ : ∃ ok, decide (a.p ∈ keysM W ∨ W.length < r) = ok := ⟨_, rfl⟩
      rw [hok]
      have okok : (ok == ok) = true := by cases ok <;> rfl
      have hAb9 : ∀ x, A9 = some x → ¬ two b t x.block := by
        intro x hx
        rcases hAA with h | h
        · exact hAb x (by rw [← h]; exact hx)
        · have h1 := h x hx
          have h2 := hm38.size
          have h3 := hm3.size
          have h4 := hm8.size
          have h5 := hm7.size
          have h6 := hm6.size
          have h8 := hm5.size
          rintro (h' | h') <;> omega
      simp (config := {maxSteps := 1000000}) only [↓zvN, zvU, ↓up_apply, ↓hv_apply, ↓upO_some, ↓upO_none, ↓ev_tmp, ↓ev_const, ↓ev_func, ↓ev_global, init, Nat.reduceEqDiff, Nat.reduceAdd, Nat.reduceMul, Nat.reduceSub, ↓reduceIte, Int.reduceEq, Int.reduceNe, Nat.reduceLeDiff, one, Value.cells, Int.reduceLE, Int.reduceLT, Int.reduceToNat, add_mk, reduceCtorEq, List.mem_range'_1, true_and, and_true, and_false, false_and, Nat.reduceLT, Nat.reduceLeDiff, tyF, okok]
      refine call_ok Try.call15 (tab_len_int w9 b t _ r hT9) ?_
      rintro _ w10 ⟨rfl, rfl⟩
      rw [List.length_map]
      simp (config := {maxSteps := 1000000}) only [↓zvN, zvU, ↓up_apply, ↓hv_apply, ↓upO_some, ↓upO_none, ↓ev_tmp, ↓ev_const, ↓ev_func, ↓ev_global, init, Nat.reduceEqDiff, Nat.reduceAdd, Nat.reduceMul, Nat.reduceSub, ↓reduceIte, Int.reduceEq, Int.reduceNe, Nat.reduceLeDiff, one, Value.cells, Int.reduceLE, Int.reduceLT, Int.reduceToNat, add_mk, reduceCtorEq, List.mem_range'_1, true_and, and_true, and_false, false_and, Nat.reduceLT, Nat.reduceLeDiff, tyF]
      refine call_ok Try.call18 (tab_all_int w10 b t _ r hT9) ?_
      rintro _ w11 ⟨A11, c11, rfl, hA11, _, hm11⟩
      have hW9l : W9.length ≤ r := by have := hT9.le; simpa using this
      rw [keys_ent] at hA11 ⊢
      simp (config := {maxSteps := 1000000}) only [↓zvN, zvU, ↓up_apply, ↓hv_apply, ↓upO_some, ↓upO_none, ↓ev_tmp, ↓ev_const, ↓ev_func, ↓ev_global, init, Nat.reduceEqDiff, Nat.reduceAdd, Nat.reduceMul, Nat.reduceSub, ↓reduceIte, Int.reduceEq, Int.reduceNe, Nat.reduceLeDiff, one, Value.cells, Int.reduceLE, Int.reduceLT, Int.reduceToNat, add_mk, reduceCtorEq, List.mem_range'_1, true_and, and_true, and_false, false_and, Nat.reduceLT, Nat.reduceLeDiff, tyF]
      refine call_ok Try.call23 (ref_prefixes w11 A9 W9 c9 (hA9.more hm11) hWo9 (by omega)) ?_
      rintro _ w12 ⟨A12, c12, rfl, hA12, hm12'⟩
      simp (config := {maxSteps := 1000000}) only [↓zvN, zvU, ↓up_apply, ↓hv_apply, ↓upO_some, ↓upO_none, ↓ev_tmp, ↓ev_const, ↓ev_func, ↓ev_global, init, Nat.reduceEqDiff, Nat.reduceAdd, Nat.reduceMul, Nat.reduceSub, ↓reduceIte, Int.reduceEq, Int.reduceNe, Nat.reduceLeDiff, one, Value.cells, Int.reduceLE, Int.reduceLT, Int.reduceToNat, add_mk, reduceCtorEq, List.mem_range'_1, true_and, and_true, and_false, false_and, Nat.reduceLT, Nat.reduceLeDiff, tyF]
      have hk9 : ∀ p ∈ keysM W9, p.addr.length = 7 := fun p hp => by obtain ⟨u, hu⟩ := mem_keys.1 hp; exact hWo9 _ hu
      have hkl : (keysM W9).length = W9.length := by unfold keysM; rw [List.length_map]
      have hsame := ref_same w12 A11 A12 (keysM W9) (keysM W9) c11 c12 (hA11.more hm12') hA12 hk9 hk9 (by omega) (by omega)
      rw [hkl] at hsame
      rw [hkl]
      refine call_ok Try.call22 hsame ?_
      rintro _ w13 ⟨rfl, hm13⟩
      have hdt : decide (keysM W9 = keysM W9) = true := decide_eq_true rfl
      simp (config := {maxSteps := 1000000}) only [↓zvN, zvU, ↓up_apply, ↓hv_apply, ↓upO_some, ↓upO_none, ↓ev_tmp, ↓ev_const, ↓ev_func, ↓ev_global, init, Nat.reduceEqDiff, Nat.reduceAdd, Nat.reduceMul, Nat.reduceSub, ↓reduceIte, Int.reduceEq, Int.reduceNe, Nat.reduceLeDiff, one, Value.cells, Int.reduceLE, Int.reduceLT, Int.reduceToNat, add_mk, reduceCtorEq, List.mem_range'_1, true_and, and_true, and_false, false_and, Nat.reduceLT, Nat.reduceLeDiff, tyF, hdt]
      have hm313 := ((hm39.trans hm11).trans hm12').trans hm13
      have hT13 := ((hT9.more hm11).more hm12').more hm13
      have hA13 := ((hA9.more hm11).more hm12').more hm13
      refine loop_p (15 :: 16 :: 17 :: List.range' 160 25) (fun e w' => PlayK W9.length w13 (e 160) w') (fun e _ => W9.length - (numOf (e 160)).toNat) ?_ ?_
      · exact ⟨0, by simp only [hv_apply, up_apply, upO_some, upO_none, init, List.mem_cons, List.mem_range'_1, true_and, and_true, and_false, false_and, Nat.reduceLT, Nat.reduceLeDiff, Nat.reduceAdd, true_or, or_true, if_true, if_false, ↓reduceIte, Nat.reduceEqDiff, false_or, or_false, List.not_mem_nil, List.getElem?_cons_zero, List.getElem?_cons_succ, Option.getD_some] <;> rfl, by omega, More.refl _⟩
      rintro v2 w14 ⟨i2, h160, hi2, hm14⟩
      simp only [hv_apply, up_apply, upO_some, upO_none, init, List.mem_cons, List.mem_range'_1, true_and, and_true, and_false, false_and, Nat.reduceLT, Nat.reduceLeDiff, Nat.reduceAdd, true_or, or_true, if_true, if_false, ↓reduceIte, Nat.reduceEqDiff, false_or, or_false, List.not_mem_nil, List.getElem?_cons_zero, List.getElem?_cons_succ, Option.getD_some] at h160
      have ei : IntKind.i64.wrap ((i2 : Int) + 1) = ((i2 + 1 : Nat) : Int) := w64 (by omega) (by omega)
      simp (config := {maxSteps := 1000000}) only [↓zvN, zvU, ↓up_apply, ↓hv_apply, ↓upO_some, ↓upO_none, ↓ev_tmp, ↓ev_const, ↓ev_func, ↓ev_global, init, Nat.reduceEqDiff, Nat.reduceAdd, Nat.reduceMul, Nat.reduceSub, ↓reduceIte, Int.reduceEq, Int.reduceNe, Nat.reduceLeDiff, one, Value.cells, Int.reduceLE, Int.reduceLT, Int.reduceToNat, add_mk, reduceCtorEq, List.mem_range'_1, true_and, and_true, and_false, false_and, Nat.reduceLT, Nat.reduceLeDiff, tyF, h160, h68, ek]
      refine ⟨fun h19 => ?_, fun h19 => ?_⟩
      rotate_left
      · refine ⟨⟨?_, k + 1, W9, A9, c9, rfl, by omega, rfl, hc9, hA13.more hm14, hAb9, hWo9, hWs9, hT13.more hm14, hm313.trans hm14⟩, by simp only [numOf]; omega⟩
        repeat (first | exact Same.hv _ _ _ | refine Same.hv2 (fun s hs => mem_of_all (by decide) hs) ?_ | refine Same.up (by simp) ?_)
      obtain ⟨e', he'⟩ := row_nat W9 i2 (by omega)
      have heo := hWo9 e' (List.mem_of_getElem? he')
      obtain ⟨aw', rfl⟩ := hA13.some_of (by rw [row_len W9 hWo9.lens]; omega)
      have hA14 := hA13.more hm14
      have g02 : (0 : Int) ≤ (i2 : Int) := by omega
      have h8' : e'.1.cells.length = 8 := by simp [PrefM.cells, heo]
      have rd' : ∀ K : Value → Prop, ldRow 8 (aw'.add (i2 * 9)) w14 K = K (.agg e'.1.cells.toArray) := fun K => by
        refine ldRow_eq h8' (fun j hj => ?_) K
        rw [hA14.elemA hWo9.lens he' (by omega), reC, List.getElem?_append_left (by omega)]
      simp (config := {maxSteps := 1000000}) only [↓zvN, zvU, ↓up_apply, ↓hv_apply, ↓upO_some, ↓upO_none, ↓ev_tmp, ↓ev_const, ↓ev_func, ↓ev_global, init, Nat.reduceEqDiff, Nat.reduceAdd, Nat.reduceMul, Nat.reduceSub, ↓reduceIte, Int.reduceEq, Int.reduceNe, Nat.reduceLeDiff, one, Value.cells, Int.reduceLE, Int.reduceLT, Int.reduceToNat, add_mk, reduceCtorEq, List.mem_range'_1, true_and, and_true, and_false, false_and, Nat.reduceLT, Nat.reduceLeDiff, tyF, h160, g02, h19, addr_zero, rd', Int.toNat_natCast]
      refine call_ok Try.call17 (tab_get_int w14 b t (W9.map entOf) r e'.1 heo (hT13.more hm14)) ?_
      rintro v15 w15 ⟨_, hG2', hm15⟩
      have hge' : getL (W9.map entOf) e'.1 = some [.int .i64 e'.2] :=
        (get_map (fun x => [Value.int .i64 x]) W9 e'.1).trans (by rw [get_some hWs9 (show (e'.1, e'.2) ∈ W9 from List.mem_of_getElem? he')]; rfl)
      obtain rfl := hG2' _ hge'
      have cw' : w15.cell? ((aw'.add (i2 * 9)).add 8) = some (.int .i64 e'.2) := by
        rw [(hA14.more hm15).elemA hWo9.lens he' (by omega), reC, List.getElem?_append_right (by omega), h8']
        rfl
      simp (config := {maxSteps := 1000000}) only [↓zvN, zvU, ↓up_apply, ↓hv_apply, ↓upO_some, ↓upO_none, ↓ev_tmp, ↓ev_const, ↓ev_func, ↓ev_global, init, Nat.reduceEqDiff, Nat.reduceAdd, Nat.reduceMul, Nat.reduceSub, ↓reduceIte, Int.reduceEq, Int.reduceNe, Nat.reduceLeDiff, one, Value.cells, Int.reduceLE, Int.reduceLT, Int.reduceToNat, add_mk, reduceCtorEq, List.mem_range'_1, true_and, and_true, and_false, false_and, Nat.reduceLT, Nat.reduceLeDiff, tyF, h160, g02, h19, cw', Int.toNat_natCast, ei]
      refine ⟨⟨?_, i2 + 1, rfl, by omega, hm14.trans hm15⟩, by simp only [numOf]; omega⟩
      repeat (first | exact Same.hv _ _ _ | refine Same.up (by simp) ?_)
    · simp (config := {maxSteps := 1000000}) only [↓zvN, zvU, ↓up_apply, ↓hv_apply, ↓upO_some, ↓upO_none, ↓ev_tmp, ↓ev_const, ↓ev_func, ↓ev_global, init, Nat.reduceEqDiff, Nat.reduceAdd, Nat.reduceMul, Nat.reduceSub, ↓reduceIte, Int.reduceEq, Int.reduceNe, Nat.reduceLeDiff, one, Value.cells, Int.reduceLE, Int.reduceLT, Int.reduceToNat, add_mk, reduceCtorEq, List.mem_range'_1, true_and, and_true, and_false, false_and, Nat.reduceLT, Nat.reduceLeDiff, tyF, h7, hi, i0, i1, tt, ff, cw, e0, hk2, wk, Int.toNat_natCast]
      have e1 := d1 j7
      simp (config := {maxSteps := 1000000}) only [↓zvN, zvU, ↓up_apply, ↓hv_apply, ↓upO_some, ↓upO_none, ↓ev_tmp, ↓ev_const, ↓ev_func, ↓ev_global, init, Nat.reduceEqDiff, Nat.reduceAdd, Nat.reduceMul, Nat.reduceSub, ↓reduceIte, Int.reduceEq, Int.reduceNe, Nat.reduceLeDiff, one, Value.cells, Int.reduceLE, Int.reduceLT, Int.reduceToNat, add_mk, reduceCtorEq, List.mem_range'_1, true_and, and_true, and_false, false_and, Nat.reduceLT, Nat.reduceLeDiff, tyF, h7, e1]
      refine call_ok Try.call16 (tab_del_int w7 b t (W.map entOf) r a.p haf.1 hT7 (by omega)) ?_
      rintro _ w8 ⟨rfl, hT8, hm8⟩
      have j8 := hm8.blk j7 hno
      have hA8 := hm8.cs hA7 hAb
      have e1 := d1 j8
      have hm38 := two_more hm37 hm8 (by omega) (by omega)
      have hpl : delL (W.map entOf) a.p = (delL W a.p).map entOf := del_map (fun x => [Value.int .i64 x]) W a.p
      rw [hpl] at hT8
      have hdk : decide (a.p ∈ keysM (W.map entOf)) = true := by
        have hmem : a.p ∈ keysM (W.map entOf) ↔ a.p ∈ keysM W := by rw [keys_ent]
        simp [hmem, hin]
      rw [hdk]
      simp (config := {maxSteps := 1000000}) only [↓zvN, zvU, ↓up_apply, ↓hv_apply, ↓upO_some, ↓upO_none, ↓ev_tmp, ↓ev_const, ↓ev_func, ↓ev_global, init, Nat.reduceEqDiff, Nat.reduceAdd, Nat.reduceMul, Nat.reduceSub, ↓reduceIte, Int.reduceEq, Int.reduceNe, Nat.reduceLeDiff, one, Value.cells, Int.reduceLE, Int.reduceLT, Int.reduceToNat, add_mk, reduceCtorEq, List.mem_range'_1, true_and, and_true, and_false, false_and, Nat.reduceLT, Nat.reduceLeDiff, tyF, h7, hi, i0, e1]
      refine call_ok Try.call21 (ref_del w8 _ W c a.p haf.1 hA8 hWo hWs hWc (by omega)) ?_
      rintro _ w9 ⟨A9, c9, rfl, hc9, hA9, hAA, hm9⟩
      have hT9 := hT8.more hm9
      have hm39 := hm38.trans hm9
      have hWo9 : ReOk (delL W a.p) := hWo.del a.p
      have hWs9 : SortedM (delL W a.p) := hWs.del a.p
      obtain ⟨W9, hW9⟩ : ∃ W9, delL W a.p = W9 := ⟨_, rfl⟩
      rw [hW9] at hT9 hA9 hc9 hWo9 hWs9 ⊢
      have okok : (true == true) = true := rfl
      have hAb9 : ∀ x, A9 = some x → ¬ two b t x.block := by
        intro x hx
        rcases hAA with h | h
        · exact hAb x (by rw [← h]; exact hx)
        · have h1 := h x hx
          have h2 := hm38.size
          have h3 := hm3.size
          have h4 := hm8.size
          have h5 := hm7.size
          have h6 := hm6.size
          have h8 := hm5.size
          rintro (h' | h') <;> omega
      simp (config := {maxSteps := 1000000}) only [↓zvN, zvU, ↓up_apply, ↓hv_apply, ↓upO_some, ↓upO_none, ↓ev_tmp, ↓ev_const, ↓ev_func, ↓ev_global, init, Nat.reduceEqDiff, Nat.reduceAdd, Nat.reduceMul, Nat.reduceSub, ↓reduceIte, Int.reduceEq, Int.reduceNe, Nat.reduceLeDiff, one, Value.cells, Int.reduceLE, Int.reduceLT, Int.reduceToNat, add_mk, reduceCtorEq, List.mem_range'_1, true_and, and_true, and_false, false_and, Nat.reduceLT, Nat.reduceLeDiff, tyF, okok]
      refine call_ok Try.call15 (tab_len_int w9 b t _ r hT9) ?_
      rintro _ w10 ⟨rfl, rfl⟩
      rw [List.length_map]
      simp (config := {maxSteps := 1000000}) only [↓zvN, zvU, ↓up_apply, ↓hv_apply, ↓upO_some, ↓upO_none, ↓ev_tmp, ↓ev_const, ↓ev_func, ↓ev_global, init, Nat.reduceEqDiff, Nat.reduceAdd, Nat.reduceMul, Nat.reduceSub, ↓reduceIte, Int.reduceEq, Int.reduceNe, Nat.reduceLeDiff, one, Value.cells, Int.reduceLE, Int.reduceLT, Int.reduceToNat, add_mk, reduceCtorEq, List.mem_range'_1, true_and, and_true, and_false, false_and, Nat.reduceLT, Nat.reduceLeDiff, tyF]
      refine call_ok Try.call18 (tab_all_int w10 b t _ r hT9) ?_
      rintro _ w11 ⟨A11, c11, rfl, hA11, _, hm11⟩
      have hW9l : W9.length ≤ r := by have := hT9.le; simpa using this
      rw [keys_ent] at hA11 ⊢
      simp (config := {maxSteps := 1000000}) only [↓zvN, zvU, ↓up_apply, ↓hv_apply, ↓upO_some, ↓upO_none, ↓ev_tmp, ↓ev_const, ↓ev_func, ↓ev_global, init, Nat.reduceEqDiff, Nat.reduceAdd, Nat.reduceMul, Nat.reduceSub, ↓reduceIte, Int.reduceEq, Int.reduceNe, Nat.reduceLeDiff, one, Value.cells, Int.reduceLE, Int.reduceLT, Int.reduceToNat, add_mk, reduceCtorEq, List.mem_range'_1, true_and, and_true, and_false, false_and, Nat.reduceLT, Nat.reduceLeDiff, tyF]
      refine call_ok Try.call23 (ref_prefixes w11 A9 W9 c9 (hA9.more hm11) hWo9 (by omega)) ?_
      rintro _ w12 ⟨A12, c12, rfl, hA12, hm12'⟩
      simp (config := {maxSteps := 1000000}) only [↓zvN, zvU, ↓up_apply, ↓hv_apply, ↓upO_some, ↓upO_none, ↓ev_tmp, ↓ev_const, ↓ev_func, ↓ev_global, init, Nat.reduceEqDiff, Nat.reduceAdd, Nat.reduceMul, Nat.reduceSub, ↓reduceIte, Int.reduceEq, Int.reduceNe, Nat.reduceLeDiff, one, Value.cells, Int.reduceLE, Int.reduceLT, Int.reduceToNat, add_mk, reduceCtorEq, List.mem_range'_1, true_and, and_true, and_false, false_and, Nat.reduceLT, Nat.reduceLeDiff, tyF]
      have hk9 : ∀ p ∈ keysM W9, p.addr.length = 7 := fun p hp => by obtain ⟨u, hu⟩ := mem_keys.1 hp; exact hWo9 _ hu
      have hkl : (keysM W9).length = W9.length := by unfold keysM; rw [List.length_map]
      have hsame := ref_same w12 A11 A12 (keysM W9) (keysM W9) c11 c12 (hA11.more hm12') hA12 hk9 hk9 (by omega) (by omega)
      rw [hkl] at hsame
      rw [hkl]
      refine call_ok Try.call22 hsame ?_
      rintro _ w13 ⟨rfl, hm13⟩
      have hdt : decide (keysM W9 = keysM W9) = true := decide_eq_true rfl
      simp (config := {maxSteps := 1000000}) only [↓zvN, zvU, ↓up_apply, ↓hv_apply, ↓upO_some, ↓upO_none, ↓ev_tmp, ↓ev_const, ↓ev_func, ↓ev_global, init, Nat.reduceEqDiff, Nat.reduceAdd, Nat.reduceMul, Nat.reduceSub, ↓reduceIte, Int.reduceEq, Int.reduceNe, Nat.reduceLeDiff, one, Value.cells, Int.reduceLE, Int.reduceLT, Int.reduceToNat, add_mk, reduceCtorEq, List.mem_range'_1, true_and, and_true, and_false, false_and, Nat.reduceLT, Nat.reduceLeDiff, tyF, hdt]
      have hm313 := ((hm39.trans hm11).trans hm12').trans hm13
      have hT13 := ((hT9.more hm11).more hm12').more hm13
      have hA13 := ((hA9.more hm11).more hm12').more hm13
      refine loop_p (15 :: 16 :: 17 :: List.range' 160 25) (fun e w' => PlayK W9.length w13 (e 160) w') (fun e _ => W9.length - (numOf (e 160)).toNat) ?_ ?_
      · exact ⟨0, by simp only [hv_apply, up_apply, upO_some, upO_none, init, List.mem_cons, List.mem_range'_1, true_and, and_true, and_false, false_and, Nat.reduceLT, Nat.reduceLeDiff, Nat.reduceAdd, true_or, or_true, if_true, if_false, ↓reduceIte, Nat.reduceEqDiff, false_or, or_false, List.not_mem_nil, List.getElem?_cons_zero, List.getElem?_cons_succ, Option.getD_some] <;> rfl, by omega, More.refl _⟩
      rintro v2 w14 ⟨i2, h160, hi2, hm14⟩
      simp only [hv_apply, up_apply, upO_some, upO_none, init, List.mem_cons, List.mem_range'_1, true_and, and_true, and_false, false_and, Nat.reduceLT, Nat.reduceLeDiff, Nat.reduceAdd, true_or, or_true, if_true, if_false, ↓reduceIte, Nat.reduceEqDiff, false_or, or_false, List.not_mem_nil, List.getElem?_cons_zero, List.getElem?_cons_succ, Option.getD_some] at h160
      have ei : IntKind.i64.wrap ((i2 : Int) + 1) = ((i2 + 1 : Nat) : Int) := w64 (by omega) (by omega)
      simp (config := {maxSteps := 1000000}) only [↓zvN, zvU, ↓up_apply, ↓hv_apply, ↓upO_some, ↓upO_none, ↓ev_tmp, ↓ev_const, ↓ev_func, ↓ev_global, init, Nat.reduceEqDiff, Nat.reduceAdd, Nat.reduceMul, Nat.reduceSub, ↓reduceIte, Int.reduceEq, Int.reduceNe, Nat.reduceLeDiff, one, Value.cells, Int.reduceLE, Int.reduceLT, Int.reduceToNat, add_mk, reduceCtorEq, List.mem_range'_1, true_and, and_true, and_false, false_and, Nat.reduceLT, Nat.reduceLeDiff, tyF, h160, h68, ek]
      refine ⟨fun h19 => ?_, fun h19 => ?_⟩
      rotate_left
      · refine ⟨⟨?_, k + 1, W9, A9, c9, rfl, by omega, rfl, hc9, hA13.more hm14, hAb9, hWo9, hWs9, hT13.more hm14, hm313.trans hm14⟩, by simp only [numOf]; omega⟩
        repeat (first | exact Same.hv _ _ _ | refine Same.hv2 (fun s hs => mem_of_all (by decide) hs) ?_ | refine Same.up (by simp) ?_)
      obtain ⟨e', he'⟩ := row_nat W9 i2 (by omega)
      have heo := hWo9 e' (List.mem_of_getElem? he')
      obtain ⟨aw', rfl⟩ := hA13.some_of (by rw [row_len W9 hWo9.lens]; omega)
      have hA14 := hA13.more hm14
      have g02 : (0 : Int) ≤ (i2 : Int) := by omega
      have h8' : e'.1.cells.length = 8 := by simp [PrefM.cells, heo]
      have rd' : ∀ K : Value → Prop, ldRow 8 (aw'.add (i2 * 9)) w14 K = K (.agg e'.1.cells.toArray) := fun K => by
        refine ldRow_eq h8' (fun j hj => ?_) K
        rw [hA14.elemA hWo9.lens he' (by omega), reC, List.getElem?_append_left (by omega)]
      simp (config := {maxSteps := 1000000}) only [↓zvN, zvU, ↓up_apply, ↓hv_apply, ↓upO_some, ↓upO_none, ↓ev_tmp, ↓ev_const, ↓ev_func, ↓ev_global, init, Nat.reduceEqDiff, Nat.reduceAdd, Nat.reduceMul, Nat.reduceSub, ↓reduceIte, Int.reduceEq, Int.reduceNe, Nat.reduceLeDiff, one, Value.cells, Int.reduceLE, Int.reduceLT, Int.reduceToNat, add_mk, reduceCtorEq, List.mem_range'_1, true_and, and_true, and_false, false_and, Nat.reduceLT, Nat.reduceLeDiff, tyF, h160, g02, h19, addr_zero, rd', Int.toNat_natCast]
      refine call_ok Try.call17 (tab_get_int w14 b t (W9.map entOf) r e'.1 heo (hT13.more hm14)) ?_
      rintro v15 w15 ⟨_, hG2', hm15⟩
      have hge' : getL (W9.map entOf) e'.1 = some [.int .i64 e'.2] :=
        (get_map (fun x => [Value.int .i64 x]) W9 e'.1).trans (by rw [get_some hWs9 (show (e'.1, e'.2) ∈ W9 from List.mem_of_getElem? he')]; rfl)
      obtain rfl := hG2' _ hge'
      have cw' : w15.cell? ((aw'.add (i2 * 9)).add 8) = some (.int .i64 e'.2) := by
        rw [(hA14.more hm15).elemA hWo9.lens he' (by omega), reC, List.getElem?_append_right (by omega), h8']
        rfl
      simp (config := {maxSteps := 1000000}) only [↓zvN, zvU, ↓up_apply, ↓hv_apply, ↓upO_some, ↓upO_none, ↓ev_tmp, ↓ev_const, ↓ev_func, ↓ev_global, init, Nat.reduceEqDiff, Nat.reduceAdd, Nat.reduceMul, Nat.reduceSub, ↓reduceIte, Int.reduceEq, Int.reduceNe, Nat.reduceLeDiff, one, Value.cells, Int.reduceLE, Int.reduceLT, Int.reduceToNat, add_mk, reduceCtorEq, List.mem_range'_1, true_and, and_true, and_false, false_and, Nat.reduceLT, Nat.reduceLeDiff, tyF, h160, g02, h19, cw', Int.toNat_natCast, ei]
      refine ⟨⟨?_, i2 + 1, rfl, by omega, hm14.trans hm15⟩, by simp only [numOf]; omega⟩
      repeat (first | exact Same.hv _ _ _ | refine Same.up (by simp) ?_)
  · have hgn := get_none hin
    rw [hgn] at hgm
    obtain rfl := hG1 hgm
    have hi : idxL a.p W 0 = -1 := by
      rcases idx_neg (p := a.p) W 0 with h | ⟨i, _, _, e, he, hep⟩
      · exact h
      · exact absurd (mem_keys.2 ⟨e.2, by rw [← hep]; exact List.mem_of_getElem? he⟩) hin
    have i0 : ¬ (0 : Int) ≤ -1 := by omega
    by_cases hk2 : Int.tmod a.kind 3 < 2
    · simp (config := {maxSteps := 1000000}) only [↓zvN, zvU, ↓up_apply, ↓hv_apply, ↓upO_some, ↓upO_none, ↓ev_tmp, ↓ev_const, ↓ev_func, ↓ev_global, init, Nat.reduceEqDiff, Nat.reduceAdd, Nat.reduceMul, Nat.reduceSub, ↓reduceIte, Int.reduceEq, Int.reduceNe, Nat.reduceLeDiff, one, Value.cells, Int.reduceLE, Int.reduceLT, Int.reduceToNat, add_mk, reduceCtorEq, List.mem_range'_1, true_and, and_true, and_false, false_and, Nat.reduceLT, Nat.reduceLeDiff, tyF, h7, hi, i0, tt, ff, e0, hk2, wk, Int.toNat_natCast]
      have e1 := d1 j7
      have e9 := d9 j7
      simp (config := {maxSteps := 1000000}) only [↓zvN, zvU, ↓up_apply, ↓hv_apply, ↓upO_some, ↓upO_none, ↓ev_tmp, ↓ev_const, ↓ev_func, ↓ev_global, init, Nat.reduceEqDiff, Nat.reduceAdd, Nat.reduceMul, Nat.reduceSub, ↓reduceIte, Int.reduceEq, Int.reduceNe, Nat.reduceLeDiff, one, Value.cells, Int.reduceLE, Int.reduceLT, Int.reduceToNat, add_mk, reduceCtorEq, List.mem_range'_1, true_and, and_true, and_false, false_and, Nat.reduceLT, Nat.reduceLeDiff, tyF, h7, e1, e9]
      refine call_ok Try.call14 (tab_put_int w7 b t (W.map entOf) r a.p a.n haf.1 hT7 (by omega)) ?_
      rintro _ w8 ⟨rfl, hT8, hm8⟩
      have j8 := hm8.blk j7 hno
      have hA8 := hm8.cs hA7 hAb
      have e1 := d1 j8
      have e9 := d9 j8
      have hm38 := two_more hm37 hm8 (by omega) (by omega)
      have hpk : putOk (W.map entOf) r a.p = decide (a.p ∈ keysM W ∨ W.length < r) := by
        have hmem : a.p ∈ keysM (W.map entOf) ↔ a.p ∈ keysM W := by rw [keys_ent]
        unfold putOk
        rw [List.length_map]
        by_cases h1 : a.p ∈ keysM W <;> by_cases h2 : W.length < r <;> simp [hmem, h1, h2]
      have hpl : putA (W.map entOf) r a.p [.int .i64 a.n] = (putR W r a.p a.n).map entOf := by
        unfold putA putR
        rw [hpk]
        by_cases h1 : a.p ∈ keysM W ∨ W.length < r
        · rw [if_pos (decide_eq_true h1), if_pos h1]
          exact put_map (fun x => [Value.int .i64 x]) W a.p a.n
        · rw [if_neg (by simpa using h1), if_neg h1]
      rw [hpl] at hT8
      rw [hpk]
      simp (config := {maxSteps := 1000000}) only [↓zvN, zvU, ↓up_apply, ↓hv_apply, ↓upO_some, ↓upO_none, ↓ev_tmp, ↓ev_const, ↓ev_func, ↓ev_global, init, Nat.reduceEqDiff, Nat.reduceAdd, Nat.reduceMul, Nat.reduceSub, ↓reduceIte, Int.reduceEq, Int.reduceNe, Nat.reduceLeDiff, one, Value.cells, Int.reduceLE, Int.reduceLT, Int.reduceToNat, add_mk, reduceCtorEq, List.mem_range'_1, true_and, and_true, and_false, false_and, Nat.reduceLT, Nat.reduceLeDiff, tyF, h7, e1, e9]
      refine call_ok Try.call20 (ref_put w8 _ W c r a.p a.n haf.1 hA8 hWo hWs hWc (by omega) (by omega)) ?_
      rintro _ w9 ⟨A9, c9, rfl, hc9, hA9, hAA, hm9⟩
      have hT9 := hT8.more hm9
      have hm39 := hm38.trans hm9
      have hWo9 : ReOk (putR W r a.p a.n) := by
        unfold putR
        split
        · exact hWo.put haf.1 a.n
        · exact hWo
      have hWs9 : SortedM (putR W r a.p a.n) := by
        unfold putR
        split
        · exact hWs.put _ _
        · exact hWs
      obtain ⟨W9, hW9⟩ : ∃ W9, putR W r a.p a.n = W9 := ⟨_, rfl⟩
      rw [hW9] at hT9 hA9 hc9 hWo9 hWs9 ⊢
      obtain ⟨ok, hok⟩ : ∃ ok, decide (a.p ∈ keysM W ∨ W.length < r) = ok := ⟨_, rfl⟩
      rw [hok]
      have okok : (ok == ok) = true := by cases ok <;> rfl
      have hAb9 : ∀ x, A9 = some x → ¬ two b t x.block := by
        intro x hx
        rcases hAA with h | h
        · exact hAb x (by rw [← h]; exact hx)
        · have h1 := h x hx
          have h2 := hm38.size
          have h3 := hm3.size
          have h4 := hm8.size
          have h5 := hm7.size
          have h6 := hm6.size
          have h8 := hm5.size
          rintro (h' | h') <;> omega
      simp (config := {maxSteps := 1000000}) only [↓zvN, zvU, ↓up_apply, ↓hv_apply, ↓upO_some, ↓upO_none, ↓ev_tmp, ↓ev_const, ↓ev_func, ↓ev_global, init, Nat.reduceEqDiff, Nat.reduceAdd, Nat.reduceMul, Nat.reduceSub, ↓reduceIte, Int.reduceEq, Int.reduceNe, Nat.reduceLeDiff, one, Value.cells, Int.reduceLE, Int.reduceLT, Int.reduceToNat, add_mk, reduceCtorEq, List.mem_range'_1, true_and, and_true, and_false, false_and, Nat.reduceLT, Nat.reduceLeDiff, tyF, okok]
      refine call_ok Try.call15 (tab_len_int w9 b t _ r hT9) ?_
      rintro _ w10 ⟨rfl, rfl⟩
      rw [List.length_map]
      simp (config := {maxSteps := 1000000}) only [↓zvN, zvU, ↓up_apply, ↓hv_apply, ↓upO_some, ↓upO_none, ↓ev_tmp, ↓ev_const, ↓ev_func, ↓ev_global, init, Nat.reduceEqDiff, Nat.reduceAdd, Nat.reduceMul, Nat.reduceSub, ↓reduceIte, Int.reduceEq, Int.reduceNe, Nat.reduceLeDiff, one, Value.cells, Int.reduceLE, Int.reduceLT, Int.reduceToNat, add_mk, reduceCtorEq, List.mem_range'_1, true_and, and_true, and_false, false_and, Nat.reduceLT, Nat.reduceLeDiff, tyF]
      refine call_ok Try.call18 (tab_all_int w10 b t _ r hT9) ?_
      rintro _ w11 ⟨A11, c11, rfl, hA11, _, hm11⟩
      have hW9l : W9.length ≤ r := by have := hT9.le; simpa using this
      rw [keys_ent] at hA11 ⊢
      simp (config := {maxSteps := 1000000}) only [↓zvN, zvU, ↓up_apply, ↓hv_apply, ↓upO_some, ↓upO_none, ↓ev_tmp, ↓ev_const, ↓ev_func, ↓ev_global, init, Nat.reduceEqDiff, Nat.reduceAdd, Nat.reduceMul, Nat.reduceSub, ↓reduceIte, Int.reduceEq, Int.reduceNe, Nat.reduceLeDiff, one, Value.cells, Int.reduceLE, Int.reduceLT, Int.reduceToNat, add_mk, reduceCtorEq, List.mem_range'_1, true_and, and_true, and_false, false_and, Nat.reduceLT, Nat.reduceLeDiff, tyF]
      refine call_ok Try.call23 (ref_prefixes w11 A9 W9 c9 (hA9.more hm11) hWo9 (by omega)) ?_
      rintro _ w12 ⟨A12, c12, rfl, hA12, hm12'⟩
      simp (config := {maxSteps := 1000000}) only [↓zvN, zvU, ↓up_apply, ↓hv_apply, ↓upO_some, ↓upO_none, ↓ev_tmp, ↓ev_const, ↓ev_func, ↓ev_global, init, Nat.reduceEqDiff, Nat.reduceAdd, Nat.reduceMul, Nat.reduceSub, ↓reduceIte, Int.reduceEq, Int.reduceNe, Nat.reduceLeDiff, one, Value.cells, Int.reduceLE, Int.reduceLT, Int.reduceToNat, add_mk, reduceCtorEq, List.mem_range'_1, true_and, and_true, and_false, false_and, Nat.reduceLT, Nat.reduceLeDiff, tyF]
      have hk9 : ∀ p ∈ keysM W9, p.addr.length = 7 := fun p hp => by obtain ⟨u, hu⟩ := mem_keys.1 hp; exact hWo9 _ hu
      have hkl : (keysM W9).length = W9.length := by unfold keysM; rw [List.length_map]
      have hsame := ref_same w12 A11 A12 (keysM W9) (keysM W9) c11 c12 (hA11.more hm12') hA12 hk9 hk9 (by omega) (by omega)
      rw [hkl] at hsame
      rw [hkl]
      refine call_ok Try.call22 hsame ?_
      rintro _ w13 ⟨rfl, hm13⟩
      have hdt : decide (keysM W9 = keysM W9) = true := decide_eq_true rfl
      simp (config := {maxSteps := 1000000}) only [↓zvN, zvU, ↓up_apply, ↓hv_apply, ↓upO_some, ↓upO_none, ↓ev_tmp, ↓ev_const, ↓ev_func, ↓ev_global, init, Nat.reduceEqDiff, Nat.reduceAdd, Nat.reduceMul, Nat.reduceSub, ↓reduceIte, Int.reduceEq, Int.reduceNe, Nat.reduceLeDiff, one, Value.cells, Int.reduceLE, Int.reduceLT, Int.reduceToNat, add_mk, reduceCtorEq, List.mem_range'_1, true_and, and_true, and_false, false_and, Nat.reduceLT, Nat.reduceLeDiff, tyF, hdt]
      have hm313 := ((hm39.trans hm11).trans hm12').trans hm13
      have hT13 := ((hT9.more hm11).more hm12').more hm13
      have hA13 := ((hA9.more hm11).more hm12').more hm13
      refine loop_p (15 :: 16 :: 17 :: List.range' 160 25) (fun e w' => PlayK W9.length w13 (e 160) w') (fun e _ => W9.length - (numOf (e 160)).toNat) ?_ ?_
      · exact ⟨0, by simp only [hv_apply, up_apply, upO_some, upO_none, init, List.mem_cons, List.mem_range'_1, true_and, and_true, and_false, false_and, Nat.reduceLT, Nat.reduceLeDiff, Nat.reduceAdd, true_or, or_true, if_true, if_false, ↓reduceIte, Nat.reduceEqDiff, false_or, or_false, List.not_mem_nil, List.getElem?_cons_zero, List.getElem?_cons_succ, Option.getD_some] <;> rfl, by omega, More.refl _⟩
      rintro v2 w14 ⟨i2, h160, hi2, hm14⟩
      simp only [hv_apply, up_apply, upO_some, upO_none, init, List.mem_cons, List.mem_range'_1, true_and, and_true, and_false, false_and, Nat.reduceLT, Nat.reduceLeDiff, Nat.reduceAdd, true_or, or_true, if_true, if_false, ↓reduceIte, Nat.reduceEqDiff, false_or, or_false, List.not_mem_nil, List.getElem?_cons_zero, List.getElem?_cons_succ, Option.getD_some] at h160
      have ei : IntKind.i64.wrap ((i2 : Int) + 1) = ((i2 + 1 : Nat) : Int) := w64 (by omega) (by omega)
      simp (config := {maxSteps := 1000000}) only [↓zvN, zvU, ↓up_apply, ↓hv_apply, ↓upO_some, ↓upO_none, ↓ev_tmp, ↓ev_const, ↓ev_func, ↓ev_global, init, Nat.reduceEqDiff, Nat.reduceAdd, Nat.reduceMul, Nat.reduceSub, ↓reduceIte, Int.reduceEq, Int.reduceNe, Nat.reduceLeDiff, one, Value.cells, Int.reduceLE, Int.reduceLT, Int.reduceToNat, add_mk, reduceCtorEq, List.mem_range'_1, true_and, and_true, and_false, false_and, Nat.reduceLT, Nat.reduceLeDiff, tyF, h160, h68, ek]
      refine ⟨fun h19 => ?_, fun h19 => ?_⟩
      rotate_left
      · refine ⟨⟨?_, k + 1, W9, A9, c9, rfl, by omega, rfl, hc9, hA13.more hm14, hAb9, hWo9, hWs9, hT13.more hm14, hm313.trans hm14⟩, by simp only [numOf]; omega⟩
        repeat (first | exact Same.hv _ _ _ | refine Same.hv2 (fun s hs => mem_of_all (by decide) hs) ?_ | refine Same.up (by simp) ?_)
      obtain ⟨e', he'⟩ := row_nat W9 i2 (by omega)
      have heo := hWo9 e' (List.mem_of_getElem? he')
      obtain ⟨aw', rfl⟩ := hA13.some_of (by rw [row_len W9 hWo9.lens]; omega)
      have hA14 := hA13.more hm14
      have g02 : (0 : Int) ≤ (i2 : Int) := by omega
      have h8' : e'.1.cells.length = 8 := by simp [PrefM.cells, heo]
      have rd' : ∀ K : Value → Prop, ldRow 8 (aw'.add (i2 * 9)) w14 K = K (.agg e'.1.cells.toArray) := fun K => by
        refine ldRow_eq h8' (fun j hj => ?_) K
        rw [hA14.elemA hWo9.lens he' (by omega), reC, List.getElem?_append_left (by omega)]
      simp (config := {maxSteps := 1000000}) only [↓zvN, zvU, ↓up_apply, ↓hv_apply, ↓upO_some, ↓upO_none, ↓ev_tmp, ↓ev_const, ↓ev_func, ↓ev_global, init, Nat.reduceEqDiff, Nat.reduceAdd, Nat.reduceMul, Nat.reduceSub, ↓reduceIte, Int.reduceEq, Int.reduceNe, Nat.reduceLeDiff, one, Value.cells, Int.reduceLE, Int.reduceLT, Int.reduceToNat, add_mk, reduceCtorEq, List.mem_range'_1, true_and, and_true, and_false, false_and, Nat.reduceLT, Nat.reduceLeDiff, tyF, h160, g02, h19, addr_zero, rd', Int.toNat_natCast]
      refine call_ok Try.call17 (tab_get_int w14 b t (W9.map entOf) r e'.1 heo (hT13.more hm14)) ?_
      rintro v15 w15 ⟨_, hG2', hm15⟩
      have hge' : getL (W9.map entOf) e'.1 = some [.int .i64 e'.2] :=
        (get_map (fun x => [Value.int .i64 x]) W9 e'.1).trans (by rw [get_some hWs9 (show (e'.1, e'.2) ∈ W9 from List.mem_of_getElem? he')]; rfl)
      obtain rfl := hG2' _ hge'
      have cw' : w15.cell? ((aw'.add (i2 * 9)).add 8) = some (.int .i64 e'.2) := by
        rw [(hA14.more hm15).elemA hWo9.lens he' (by omega), reC, List.getElem?_append_right (by omega), h8']
        rfl
      simp (config := {maxSteps := 1000000}) only [↓zvN, zvU, ↓up_apply, ↓hv_apply, ↓upO_some, ↓upO_none, ↓ev_tmp, ↓ev_const, ↓ev_func, ↓ev_global, init, Nat.reduceEqDiff, Nat.reduceAdd, Nat.reduceMul, Nat.reduceSub, ↓reduceIte, Int.reduceEq, Int.reduceNe, Nat.reduceLeDiff, one, Value.cells, Int.reduceLE, Int.reduceLT, Int.reduceToNat, add_mk, reduceCtorEq, List.mem_range'_1, true_and, and_true, and_false, false_and, Nat.reduceLT, Nat.reduceLeDiff, tyF, h160, g02, h19, cw', Int.toNat_natCast, ei]
      refine ⟨⟨?_, i2 + 1, rfl, by omega, hm14.trans hm15⟩, by simp only [numOf]; omega⟩
      repeat (first | exact Same.hv _ _ _ | refine Same.up (by simp) ?_)
    · simp (config := {maxSteps := 1000000}) only [↓zvN, zvU, ↓up_apply, ↓hv_apply, ↓upO_some, ↓upO_none, ↓ev_tmp, ↓ev_const, ↓ev_func, ↓ev_global, init, Nat.reduceEqDiff, Nat.reduceAdd, Nat.reduceMul, Nat.reduceSub, ↓reduceIte, Int.reduceEq, Int.reduceNe, Nat.reduceLeDiff, one, Value.cells, Int.reduceLE, Int.reduceLT, Int.reduceToNat, add_mk, reduceCtorEq, List.mem_range'_1, true_and, and_true, and_false, false_and, Nat.reduceLT, Nat.reduceLeDiff, tyF, h7, hi, i0, tt, ff, e0, hk2, wk, Int.toNat_natCast]
      have e1 := d1 j7
      simp (config := {maxSteps := 1000000}) only [↓zvN, zvU, ↓up_apply, ↓hv_apply, ↓upO_some, ↓upO_none, ↓ev_tmp, ↓ev_const, ↓ev_func, ↓ev_global, init, Nat.reduceEqDiff, Nat.reduceAdd, Nat.reduceMul, Nat.reduceSub, ↓reduceIte, Int.reduceEq, Int.reduceNe, Nat.reduceLeDiff, one, Value.cells, Int.reduceLE, Int.reduceLT, Int.reduceToNat, add_mk, reduceCtorEq, List.mem_range'_1, true_and, and_true, and_false, false_and, Nat.reduceLT, Nat.reduceLeDiff, tyF, h7, e1]
      refine call_ok Try.call16 (tab_del_int w7 b t (W.map entOf) r a.p haf.1 hT7 (by omega)) ?_
      rintro _ w8 ⟨rfl, hT8, hm8⟩
      have j8 := hm8.blk j7 hno
      have hA8 := hm8.cs hA7 hAb
      have e1 := d1 j8
      have hm38 := two_more hm37 hm8 (by omega) (by omega)
      have hpl : delL (W.map entOf) a.p = (delL W a.p).map entOf := del_map (fun x => [Value.int .i64 x]) W a.p
      rw [hpl] at hT8
      have hdk : decide (a.p ∈ keysM (W.map entOf)) = false := by
        have hmem : a.p ∈ keysM (W.map entOf) ↔ a.p ∈ keysM W := by rw [keys_ent]
        simp [hmem, hin]
      rw [hdk]
      simp (config := {maxSteps := 1000000}) only [↓zvN, zvU, ↓up_apply, ↓hv_apply, ↓upO_some, ↓upO_none, ↓ev_tmp, ↓ev_const, ↓ev_func, ↓ev_global, init, Nat.reduceEqDiff, Nat.reduceAdd, Nat.reduceMul, Nat.reduceSub, ↓reduceIte, Int.reduceEq, Int.reduceNe, Nat.reduceLeDiff, one, Value.cells, Int.reduceLE, Int.reduceLT, Int.reduceToNat, add_mk, reduceCtorEq, List.mem_range'_1, true_and, and_true, and_false, false_and, Nat.reduceLT, Nat.reduceLeDiff, tyF, h7, hi, i0, e1]
      refine call_ok Try.call21 (ref_del w8 _ W c a.p haf.1 hA8 hWo hWs hWc (by omega)) ?_
      rintro _ w9 ⟨A9, c9, rfl, hc9, hA9, hAA, hm9⟩
      have hT9 := hT8.more hm9
      have hm39 := hm38.trans hm9
      have hWo9 : ReOk (delL W a.p) := hWo.del a.p
      have hWs9 : SortedM (delL W a.p) := hWs.del a.p
      obtain ⟨W9, hW9⟩ : ∃ W9, delL W a.p = W9 := ⟨_, rfl⟩
      rw [hW9] at hT9 hA9 hc9 hWo9 hWs9 ⊢
      have okok : (false == false) = true := rfl
      have hAb9 : ∀ x, A9 = some x → ¬ two b t x.block := by
        intro x hx
        rcases hAA with h | h
        · exact hAb x (by rw [← h]; exact hx)
        · have h1 := h x hx
          have h2 := hm38.size
          have h3 := hm3.size
          have h4 := hm8.size
          have h5 := hm7.size
          have h6 := hm6.size
          have h8 := hm5.size
          rintro (h' | h') <;> omega
      simp (config := {maxSteps := 1000000}) only [↓zvN, zvU, ↓up_apply, ↓hv_apply, ↓upO_some, ↓upO_none, ↓ev_tmp, ↓ev_const, ↓ev_func, ↓ev_global, init, Nat.reduceEqDiff, Nat.reduceAdd, Nat.reduceMul, Nat.reduceSub, ↓reduceIte, Int.reduceEq, Int.reduceNe, Nat.reduceLeDiff, one, Value.cells, Int.reduceLE, Int.reduceLT, Int.reduceToNat, add_mk, reduceCtorEq, List.mem_range'_1, true_and, and_true, and_false, false_and, Nat.reduceLT, Nat.reduceLeDiff, tyF, okok]
      refine call_ok Try.call15 (tab_len_int w9 b t _ r hT9) ?_
      rintro _ w10 ⟨rfl, rfl⟩
      rw [List.length_map]
      simp (config := {maxSteps := 1000000}) only [↓zvN, zvU, ↓up_apply, ↓hv_apply, ↓upO_some, ↓upO_none, ↓ev_tmp, ↓ev_const, ↓ev_func, ↓ev_global, init, Nat.reduceEqDiff, Nat.reduceAdd, Nat.reduceMul, Nat.reduceSub, ↓reduceIte, Int.reduceEq, Int.reduceNe, Nat.reduceLeDiff, one, Value.cells, Int.reduceLE, Int.reduceLT, Int.reduceToNat, add_mk, reduceCtorEq, List.mem_range'_1, true_and, and_true, and_false, false_and, Nat.reduceLT, Nat.reduceLeDiff, tyF]
      refine call_ok Try.call18 (tab_all_int w10 b t _ r hT9) ?_
      rintro _ w11 ⟨A11, c11, rfl, hA11, _, hm11⟩
      have hW9l : W9.length ≤ r := by have := hT9.le; simpa using this
      rw [keys_ent] at hA11 ⊢
      simp (config := {maxSteps := 1000000}) only [↓zvN, zvU, ↓up_apply, ↓hv_apply, ↓upO_some, ↓upO_none, ↓ev_tmp, ↓ev_const, ↓ev_func, ↓ev_global, init, Nat.reduceEqDiff, Nat.reduceAdd, Nat.reduceMul, Nat.reduceSub, ↓reduceIte, Int.reduceEq, Int.reduceNe, Nat.reduceLeDiff, one, Value.cells, Int.reduceLE, Int.reduceLT, Int.reduceToNat, add_mk, reduceCtorEq, List.mem_range'_1, true_and, and_true, and_false, false_and, Nat.reduceLT, Nat.reduceLeDiff, tyF]
      refine call_ok Try.call23 (ref_prefixes w11 A9 W9 c9 (hA9.more hm11) hWo9 (by omega)) ?_
      rintro _ w12 ⟨A12, c12, rfl, hA12, hm12'⟩
      simp (config := {maxSteps := 1000000}) only [↓zvN, zvU, ↓up_apply, ↓hv_apply, ↓upO_some, ↓upO_none, ↓ev_tmp, ↓ev_const, ↓ev_func, ↓ev_global, init, Nat.reduceEqDiff, Nat.reduceAdd, Nat.reduceMul, Nat.reduceSub, ↓reduceIte, Int.reduceEq, Int.reduceNe, Nat.reduceLeDiff, one, Value.cells, Int.reduceLE, Int.reduceLT, Int.reduceToNat, add_mk, reduceCtorEq, List.mem_range'_1, true_and, and_true, and_false, false_and, Nat.reduceLT, Nat.reduceLeDiff, tyF]
      have hk9 : ∀ p ∈ keysM W9, p.addr.length = 7 := fun p hp => by obtain ⟨u, hu⟩ := mem_keys.1 hp; exact hWo9 _ hu
      have hkl : (keysM W9).length = W9.length := by unfold keysM; rw [List.length_map]
      have hsame := ref_same w12 A11 A12 (keysM W9) (keysM W9) c11 c12 (hA11.more hm12') hA12 hk9 hk9 (by omega) (by omega)
      rw [hkl] at hsame
      rw [hkl]
      refine call_ok Try.call22 hsame ?_
      rintro _ w13 ⟨rfl, hm13⟩
      have hdt : decide (keysM W9 = keysM W9) = true := decide_eq_true rfl
      simp (config := {maxSteps := 1000000}) only [↓zvN, zvU, ↓up_apply, ↓hv_apply, ↓upO_some, ↓upO_none, ↓ev_tmp, ↓ev_const, ↓ev_func, ↓ev_global, init, Nat.reduceEqDiff, Nat.reduceAdd, Nat.reduceMul, Nat.reduceSub, ↓reduceIte, Int.reduceEq, Int.reduceNe, Nat.reduceLeDiff, one, Value.cells, Int.reduceLE, Int.reduceLT, Int.reduceToNat, add_mk, reduceCtorEq, List.mem_range'_1, true_and, and_true, and_false, false_and, Nat.reduceLT, Nat.reduceLeDiff, tyF, hdt]
      have hm313 := ((hm39.trans hm11).trans hm12').trans hm13
      have hT13 := ((hT9.more hm11).more hm12').more hm13
      have hA13 := ((hA9.more hm11).more hm12').more hm13
      refine loop_p (15 :: 16 :: 17 :: List.range' 160 25) (fun e w' => PlayK W9.length w13 (e 160) w') (fun e _ => W9.length - (numOf (e 160)).toNat) ?_ ?_
      · exact ⟨0, by simp only [hv_apply, up_apply, upO_some, upO_none, init, List.mem_cons, List.mem_range'_1, true_and, and_true, and_false, false_and, Nat.reduceLT, Nat.reduceLeDiff, Nat.reduceAdd, true_or, or_true, if_true, if_false, ↓reduceIte, Nat.reduceEqDiff, false_or, or_false, List.not_mem_nil, List.getElem?_cons_zero, List.getElem?_cons_succ, Option.getD_some] <;> rfl, by omega, More.refl _⟩
      rintro v2 w14 ⟨i2, h160, hi2, hm14⟩
      simp only [hv_apply, up_apply, upO_some, upO_none, init, List.mem_cons, List.mem_range'_1, true_and, and_true, and_false, false_and, Nat.reduceLT, Nat.reduceLeDiff, Nat.reduceAdd, true_or, or_true, if_true, if_false, ↓reduceIte, Nat.reduceEqDiff, false_or, or_false, List.not_mem_nil, List.getElem?_cons_zero, List.getElem?_cons_succ, Option.getD_some] at h160
      have ei : IntKind.i64.wrap ((i2 : Int) + 1) = ((i2 + 1 : Nat) : Int) := w64 (by omega) (by omega)
      simp (config := {maxSteps := 1000000}) only [↓zvN, zvU, ↓up_apply, ↓hv_apply, ↓upO_some, ↓upO_none, ↓ev_tmp, ↓ev_const, ↓ev_func, ↓ev_global, init, Nat.reduceEqDiff, Nat.reduceAdd, Nat.reduceMul, Nat.reduceSub, ↓reduceIte, Int.reduceEq, Int.reduceNe, Nat.reduceLeDiff, one, Value.cells, Int.reduceLE, Int.reduceLT, Int.reduceToNat, add_mk, reduceCtorEq, List.mem_range'_1, true_and, and_true, and_false, false_and, Nat.reduceLT, Nat.reduceLeDiff, tyF, h160, h68, ek]
      refine ⟨fun h19 => ?_, fun h19 => ?_⟩
      rotate_left
      · refine ⟨⟨?_, k + 1, W9, A9, c9, rfl, by omega, rfl, hc9, hA13.more hm14, hAb9, hWo9, hWs9, hT13.more hm14, hm313.trans hm14⟩, by simp only [numOf]; omega⟩
        repeat (first | exact Same.hv _ _ _ | refine Same.hv2 (fun s hs => mem_of_all (by decide) hs) ?_ | refine Same.up (by simp) ?_)
      obtain ⟨e', he'⟩ := row_nat W9 i2 (by omega)
      have heo := hWo9 e' (List.mem_of_getElem? he')
      obtain ⟨aw', rfl⟩ := hA13.some_of (by rw [row_len W9 hWo9.lens]; omega)
      have hA14 := hA13.more hm14
      have g02 : (0 : Int) ≤ (i2 : Int) := by omega
      have h8' : e'.1.cells.length = 8 := by simp [PrefM.cells, heo]
      have rd' : ∀ K : Value → Prop, ldRow 8 (aw'.add (i2 * 9)) w14 K = K (.agg e'.1.cells.toArray) := fun K => by
        refine ldRow_eq h8' (fun j hj => ?_) K
        rw [hA14.elemA hWo9.lens he' (by omega), reC, List.getElem?_append_left (by omega)]
      simp (config := {maxSteps := 1000000}) only [↓zvN, zvU, ↓up_apply, ↓hv_apply, ↓upO_some, ↓upO_none, ↓ev_tmp, ↓ev_const, ↓ev_func, ↓ev_global, init, Nat.reduceEqDiff, Nat.reduceAdd, Nat.reduceMul, Nat.reduceSub, ↓reduceIte, Int.reduceEq, Int.reduceNe, Nat.reduceLeDiff, one, Value.cells, Int.reduceLE, Int.reduceLT, Int.reduceToNat, add_mk, reduceCtorEq, List.mem_range'_1, true_and, and_true, and_false, false_and, Nat.reduceLT, Nat.reduceLeDiff, tyF, h160, g02, h19, addr_zero, rd', Int.toNat_natCast]
      refine call_ok Try.call17 (tab_get_int w14 b t (W9.map entOf) r e'.1 heo (hT13.more hm14)) ?_
      rintro v15 w15 ⟨_, hG2', hm15⟩
      have hge' : getL (W9.map entOf) e'.1 = some [.int .i64 e'.2] :=
        (get_map (fun x => [Value.int .i64 x]) W9 e'.1).trans (by rw [get_some hWs9 (show (e'.1, e'.2) ∈ W9 from List.mem_of_getElem? he')]; rfl)
      obtain rfl := hG2' _ hge'
      have cw' : w15.cell? ((aw'.add (i2 * 9)).add 8) = some (.int .i64 e'.2) := by
        rw [(hA14.more hm15).elemA hWo9.lens he' (by omega), reC, List.getElem?_append_right (by omega), h8']
        rfl
      simp (config := {maxSteps := 1000000}) only [↓zvN, zvU, ↓up_apply, ↓hv_apply, ↓upO_some, ↓upO_none, ↓ev_tmp, ↓ev_const, ↓ev_func, ↓ev_global, init, Nat.reduceEqDiff, Nat.reduceAdd, Nat.reduceMul, Nat.reduceSub, ↓reduceIte, Int.reduceEq, Int.reduceNe, Nat.reduceLeDiff, one, Value.cells, Int.reduceLE, Int.reduceLT, Int.reduceToNat, add_mk, reduceCtorEq, List.mem_range'_1, true_and, and_true, and_false, false_and, Nat.reduceLT, Nat.reduceLeDiff, tyF, h160, g02, h19, cw', Int.toNat_natCast, ei]
      refine ⟨⟨?_, i2 + 1, rfl, by omega, hm14.trans hm15⟩, by simp only [numOf]; omega⟩
      repeat (first | exact Same.hv _ _ _ | refine Same.up (by simp) ?_)
end Go.Proofs.Ytimhcjakpdebjaa
