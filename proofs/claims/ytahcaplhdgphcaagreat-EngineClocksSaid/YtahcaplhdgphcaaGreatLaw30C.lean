/-
  Layer 30: EngineClocks.
-/
import Derived.Test.YtahcaplhdgphcaaGreatAwake30
namespace Go.Proofs.YtahcaplhdgphcaaGreat
open Go Go.RowKit Go.Proofs.RV
set_option linter.unusedSimpArgs false
set_option linter.unusedVariables false
set_option maxRecDepth 10000
set_option maxHeartbeats 4000000
/-- where the loop stands -/
def ClocksJ (l : List Int) (e s p : Nat) (w : World) (v5 v6 v26 : Value) (w' : World) : Prop :=
  ∃ (k : Nat) (now n : Int) (st : List Int), v26 = .int .i64 k ∧ v5 = .int .i64 now ∧ v6 = .int .i64 n ∧ k ≤ l.length ∧ 0 ≤ n ∧ n ≤ k ∧ st.length = 31 ∧ st.getD 14 0 = n ∧ Blk w' e 75 (engCells s p now st) ∧ More w w'
theorem bump_at (st : List Int) (hs : st.length = 31) : (bump st 14 1).getD 14 0 = addM (st.getD 14 0) 1 := by
  unfold bump
  rw [List.getD_eq_getElem?_getD, List.getElem?_set_self (by omega)]
  rfl
theorem add_one (n : Int) (h0 : 0 ≤ n) (h1 : n ≤ 1000) : addM n 1 = n + 1 := by unfold addM countM; omega
theorem engine_clocks (w : World) (A0 : Option Addr) (l : List Int) (c0 : Nat) (hA0 : Cs w A0 (ints l)) :
    Ret Tryz.prog 3 #[.slice A0 l.length c0] w fun v w' => v = .bool true ∧ More w w' := by
  refine ret_of Tryz.func3 rfl (by kernel_rfl) (Nat.le_of_ble_eq_true (by kernel_rfl)) ?_
  simp (config := {maxSteps := 1000000, implicitDefEqProofs := false}) only [↓zvN, zvU, ↓up_apply, ↓hv_apply, ↓upO_some, ↓upO_none, ↓ev_tmp, ↓ev_const, ↓ev_func, ↓ev_global, init, Nat.reduceEqDiff, Nat.reduceAdd, Nat.reduceMul, Nat.reduceSub, ↓reduceIte, Int.reduceEq, Int.reduceNe, Nat.reduceLeDiff, one, Value.cells, Int.reduceLE, Int.reduceLT, Int.reduceToNat, add_mk, reduceCtorEq, List.mem_range'_1, true_and, and_true, and_false, false_and, Nat.reduceLT, Nat.reduceLeDiff, tyF]
  refine call_ok Tryz.call6 (awake30 _) ?_
  rintro _ w1 ⟨rfl, hm1⟩
  by_cases h60 : (60 : Int) < (l.length : Int)
  · simp (config := {maxSteps := 1000000, implicitDefEqProofs := false}) only [↓zvN, zvU, ↓up_apply, ↓hv_apply, ↓upO_some, ↓upO_none, ↓ev_tmp, ↓ev_const, ↓ev_func, ↓ev_global, init, Nat.reduceEqDiff, Nat.reduceAdd, Nat.reduceMul, Nat.reduceSub, ↓reduceIte, Int.reduceEq, Int.reduceNe, Nat.reduceLeDiff, one, Value.cells, Int.reduceLE, Int.reduceLT, Int.reduceToNat, add_mk, reduceCtorEq, List.mem_range'_1, true_and, and_true, and_false, false_and, Nat.reduceLT, Nat.reduceLeDiff, tyF, h60]
    refine call_ok Tryz.call6 (awake30 _) ?_
    rintro _ w2 ⟨rfl, hm2⟩
    simp (config := {maxSteps := 1000000, implicitDefEqProofs := false}) only [↓zvN, zvU, ↓up_apply, ↓hv_apply, ↓upO_some, ↓upO_none, ↓ev_tmp, ↓ev_const, ↓ev_func, ↓ev_global, init, Nat.reduceEqDiff, Nat.reduceAdd, Nat.reduceMul, Nat.reduceSub, ↓reduceIte, Int.reduceEq, Int.reduceNe, Nat.reduceLeDiff, one, Value.cells, Int.reduceLE, Int.reduceLT, Int.reduceToNat, add_mk, reduceCtorEq, List.mem_range'_1, true_and, and_true, and_false, false_and, Nat.reduceLT, Nat.reduceLeDiff, tyF]
    exact hm1.trans hm2
  have hl : l.length ≤ 60 := by omega
  simp (config := {maxSteps := 1000000, implicitDefEqProofs := false}) only [↓zvN, zvU, ↓up_apply, ↓hv_apply, ↓upO_some, ↓upO_none, ↓ev_tmp, ↓ev_const, ↓ev_func, ↓ev_global, init, Nat.reduceEqDiff, Nat.reduceAdd, Nat.reduceMul, Nat.reduceSub, ↓reduceIte, Int.reduceEq, Int.reduceNe, Nat.reduceLeDiff, one, Value.cells, Int.reduceLE, Int.reduceLT, Int.reduceToNat, add_mk, reduceCtorEq, List.mem_range'_1, true_and, and_true, and_false, false_and, Nat.reduceLT, Nat.reduceLeDiff, tyF, h60]
  refine call_ok Tryz.call8 (little30 w1) ?_
  rintro _ w2 ⟨rfl, hm2⟩
  have bk := key0_build w2
  simp (config := {maxSteps := 1000000, implicitDefEqProofs := false}) only [↓zvN, zvU, ↓up_apply, ↓hv_apply, ↓upO_some, ↓upO_none, ↓ev_tmp, ↓ev_const, ↓ev_func, ↓ev_global, init, Nat.reduceEqDiff, Nat.reduceAdd, Nat.reduceMul, Nat.reduceSub, ↓reduceIte, Int.reduceEq, Int.reduceNe, Nat.reduceLeDiff, one, Value.cells, Int.reduceLE, Int.reduceLT, Int.reduceToNat, add_mk, reduceCtorEq, List.mem_range'_1, true_and, and_true, and_false, false_and, Nat.reduceLT, Nat.reduceLeDiff, tyF]
  rw [bk]
  simp (config := {maxSteps := 1000000, implicitDefEqProofs := false}) only [↓zvN, zvU, ↓up_apply, ↓hv_apply, ↓upO_some, ↓upO_none, ↓ev_tmp, ↓ev_const, ↓ev_func, ↓ev_global, init, Nat.reduceEqDiff, Nat.reduceAdd, Nat.reduceMul, Nat.reduceSub, ↓reduceIte, Int.reduceEq, Int.reduceNe, Nat.reduceLeDiff, one, Value.cells, Int.reduceLE, Int.reduceLT, Int.reduceToNat, add_mk, reduceCtorEq, List.mem_range'_1, true_and, and_true, and_false, false_and, Nat.reduceLT, Nat.reduceLeDiff, tyF]
  refine call_ok Tryz.call7 (engine_new w2 littleC (noBytes 16) rfl rfl little_right) ?_
  rintro _ w3 ⟨hm3, e, s, p, q, rfl, hE⟩
  have hb3 := hE.eng
  have hm13 := (hm1.trans hm2).trans hm3
  have hwe : w.heap.size ≤ e := by have := hE.ge; have := hm1.size; have := hm2.size; omega
  simp (config := {maxSteps := 1000000, implicitDefEqProofs := false}) only [↓zvN, zvU, ↓up_apply, ↓hv_apply, ↓upO_some, ↓upO_none, ↓ev_tmp, ↓ev_const, ↓ev_func, ↓ev_global, init, Nat.reduceEqDiff, Nat.reduceAdd, Nat.reduceMul, Nat.reduceSub, ↓reduceIte, Int.reduceEq, Int.reduceNe, Nat.reduceLeDiff, one, Value.cells, Int.reduceLE, Int.reduceLT, Int.reduceToNat, add_mk, reduceCtorEq, List.mem_range'_1, true_and, and_true, and_false, false_and, Nat.reduceLT, Nat.reduceLeDiff, tyF]
  refine loop_p (5 :: 6 :: 7 :: 8 :: 9 :: List.range' 26 54) (fun e' w' => ClocksJ l e s p w (e' 5) (e' 6) (e' 26) w') (fun e' _ => l.length - (numOf (e' 26)).toNat) ?_ ?_
  · exact ⟨0, 0, 0, _, by simp only [hv_apply, up_apply, upO_some, upO_none, init, List.mem_cons, List.mem_range'_1, true_and, and_true, and_false, false_and, Nat.reduceLT, Nat.reduceLeDiff, Nat.reduceAdd, true_or, or_true, if_true, if_false, ↓reduceIte, Nat.reduceEqDiff, false_or, or_false, List.not_mem_nil, List.getElem?_cons_zero, List.getElem?_cons_succ, Option.getD_some] <;> rfl, by simp only [hv_apply, up_apply, upO_some, upO_none, init, List.mem_cons, List.mem_range'_1, true_and, and_true, and_false, false_and, Nat.reduceLT, Nat.reduceLeDiff, Nat.reduceAdd, true_or, or_true, if_true, if_false, ↓reduceIte, Nat.reduceEqDiff, false_or, or_false, List.not_mem_nil, List.getElem?_cons_zero, List.getElem?_cons_succ, Option.getD_some] <;> rfl, by simp only [hv_apply, up_apply, upO_some, upO_none, init, List.mem_cons, List.mem_range'_1, true_and, and_true, and_false, false_and, Nat.reduceLT, Nat.reduceLeDiff, Nat.reduceAdd, true_or, or_true, if_true, if_false, ↓reduceIte, Nat.reduceEqDiff, false_or, or_false, List.not_mem_nil, List.getElem?_cons_zero, List.getElem?_cons_succ, Option.getD_some] <;> rfl, by omega, by omega, by omega, rfl, rfl, hb3, hm13⟩
  rintro v w4 ⟨k, now, n, st, h26, h5, h6, hk, hn0, hn1, hs, hst, hb4, hm4⟩
  simp only [hv_apply, up_apply, upO_some, upO_none, init, List.mem_cons, List.mem_range'_1, true_and, and_true, and_false, false_and, Nat.reduceLT, Nat.reduceLeDiff, Nat.reduceAdd, true_or, or_true, if_true, if_false, ↓reduceIte, Nat.reduceEqDiff, false_or, or_false, List.not_mem_nil, List.getElem?_cons_zero, List.getElem?_cons_succ, Option.getD_some] at h26 h5 h6
  have ek : IntKind.i64.wrap ((k : Int) + 1) = ((k + 1 : Nat) : Int) := w64 (by omega) (by omega)
  simp (config := {maxSteps := 1000000, implicitDefEqProofs := false}) only [↓zvN, zvU, ↓up_apply, ↓hv_apply, ↓upO_some, ↓upO_none, ↓ev_tmp, ↓ev_const, ↓ev_func, ↓ev_global, init, Nat.reduceEqDiff, Nat.reduceAdd, Nat.reduceMul, Nat.reduceSub, ↓reduceIte, Int.reduceEq, Int.reduceNe, Nat.reduceLeDiff, one, Value.cells, Int.reduceLE, Int.reduceLT, Int.reduceToNat, add_mk, reduceCtorEq, List.mem_range'_1, true_and, and_true, and_false, false_and, Nat.reduceLT, Nat.reduceLeDiff, tyF, h26]
  refine ⟨fun h9 => ?_, fun h9 => ?_⟩
  rotate_left
  · try simp (config := {maxSteps := 1000000, implicitDefEqProofs := false}) only [↓zvN, zvU, ↓up_apply, ↓hv_apply, ↓upO_some, ↓upO_none, ↓ev_tmp, ↓ev_const, ↓ev_func, ↓ev_global, init, Nat.reduceEqDiff, Nat.reduceAdd, Nat.reduceMul, Nat.reduceSub, ↓reduceIte, Int.reduceEq, Int.reduceNe, Nat.reduceLeDiff, one, Value.cells, Int.reduceLE, Int.reduceLT, Int.reduceToNat, add_mk, reduceCtorEq, List.mem_range'_1, true_and, and_true, and_false, false_and, Nat.reduceLT, Nat.reduceLeDiff, tyF]
    exact hm4
  have hk2 : k < l.length := by omega
  obtain ⟨ad, rfl⟩ := hA0.some_of (by rw [ints_len]; omega)
  have rc : ∀ {w' : World}, More w w' → w'.cell? (ad.add k) = some (.int .i64 (l.getD k 0)) := fun h => by
    obtain ⟨x, hx, hc⟩ := (hA0.more h) k _ (ints_at (by omega))
    cases hx
    exact hc
  obtain ⟨t, ht⟩ : ∃ t, l.getD k 0 = t := ⟨_, rfl⟩
  rw [ht] at rc
  have g0 : (0 : Int) ≤ (k : Int) := by omega
  simp (config := {maxSteps := 1000000, implicitDefEqProofs := false}) only [↓zvN, zvU, ↓up_apply, ↓hv_apply, ↓upO_some, ↓upO_none, ↓ev_tmp, ↓ev_const, ↓ev_func, ↓ev_global, init, Nat.reduceEqDiff, Nat.reduceAdd, Nat.reduceMul, Nat.reduceSub, ↓reduceIte, Int.reduceEq, Int.reduceNe, Nat.reduceLeDiff, one, Value.cells, Int.reduceLE, Int.reduceLT, Int.reduceToNat, add_mk, reduceCtorEq, List.mem_range'_1, true_and, and_true, and_false, false_and, Nat.reduceLT, Nat.reduceLeDiff, tyF, h26, g0, h9, rc hm4, Int.toNat_natCast]
  refine call_ok Tryz.call9 (eng_clock w4 e s p now st t hs hb4) ?_
  rintro u w5 ⟨hm5, hyes, hno⟩
  have hm05 : More w w5 := Mod.more hm4 hm5 (fun k hk h => by omega)
  have tf : (true == false) = false := rfl
  have ft : (false == true) = false := rfl
  have tt : (true == true) = true := rfl
  have ff : (false == false) = true := rfl
  by_cases h1 : now ≤ t
  · by_cases h2 : t ≤ 4611686018427387903
    · obtain ⟨rfl, hb5⟩ := hyes ⟨h1, h2⟩
      simp (config := {maxSteps := 1000000, implicitDefEqProofs := false}) only [↓zvN, zvU, ↓up_apply, ↓hv_apply, ↓upO_some, ↓upO_none, ↓ev_tmp, ↓ev_const, ↓ev_func, ↓ev_global, init, Nat.reduceEqDiff, Nat.reduceAdd, Nat.reduceMul, Nat.reduceSub, ↓reduceIte, Int.reduceEq, Int.reduceNe, Nat.reduceLeDiff, one, Value.cells, Int.reduceLE, Int.reduceLT, Int.reduceToNat, add_mk, reduceCtorEq, List.mem_range'_1, true_and, and_true, and_false, false_and, Nat.reduceLT, Nat.reduceLeDiff, tyF, h26, g0, h9, rc hm05, Int.toNat_natCast, h5, h6, h1, h2, tt, ff, tf, ft]
      refine call_ok Tryz.call10 (eng_now w5 e s p t st hb5) ?_
      rintro _ w6 ⟨rfl, rfl⟩
      simp (config := {maxSteps := 1000000, implicitDefEqProofs := false}) only [↓zvN, zvU, ↓up_apply, ↓hv_apply, ↓upO_some, ↓upO_none, ↓ev_tmp, ↓ev_const, ↓ev_func, ↓ev_global, init, Nat.reduceEqDiff, Nat.reduceAdd, Nat.reduceMul, Nat.reduceSub, ↓reduceIte, Int.reduceEq, Int.reduceNe, Nat.reduceLeDiff, one, Value.cells, Int.reduceLE, Int.reduceLT, Int.reduceToNat, add_mk, reduceCtorEq, List.mem_range'_1, true_and, and_true, and_false, false_and, Nat.reduceLT, Nat.reduceLeDiff, tyF, h26, h5, h6]
      refine call_ok Tryz.call11 (eng_stats w6 e s p t st hs hb5) ?_
      rintro _ w7 ⟨rfl, hm7⟩
      have f0 := stats_N (st := st) hs w7
      have f1 := statsN_at (l := (st).take 15) (by rw [List.length_take, hs]; rfl) 14 (by decide) w7
      have f2 : ((st).take 15).getD 14 0 = n := by
        rw [List.getD_eq_getElem?_getD, List.getElem?_take_of_lt (by decide), ← List.getD_eq_getElem?_getD]
        first | exact hst | (rw [bump_at st hs, hst]; exact add_one n hn0 (by omega))
      rw [f2] at f1
      simp (config := {maxSteps := 1000000, implicitDefEqProofs := false}) only [↓zvN, zvU, ↓up_apply, ↓hv_apply, ↓upO_some, ↓upO_none, ↓ev_tmp, ↓ev_const, ↓ev_func, ↓ev_global, init, Nat.reduceEqDiff, Nat.reduceAdd, Nat.reduceMul, Nat.reduceSub, ↓reduceIte, Int.reduceEq, Int.reduceNe, Nat.reduceLeDiff, one, Value.cells, Int.reduceLE, Int.reduceLT, Int.reduceToNat, add_mk, reduceCtorEq, List.mem_range'_1, true_and, and_true, and_false, false_and, Nat.reduceLT, Nat.reduceLeDiff, tyF]
      rw [f0]
      simp (config := {maxSteps := 1000000, implicitDefEqProofs := false}) only [↓zvN, zvU, ↓up_apply, ↓hv_apply, ↓upO_some, ↓upO_none, ↓ev_tmp, ↓ev_const, ↓ev_func, ↓ev_global, init, Nat.reduceEqDiff, Nat.reduceAdd, Nat.reduceMul, Nat.reduceSub, ↓reduceIte, Int.reduceEq, Int.reduceNe, Nat.reduceLeDiff, one, Value.cells, Int.reduceLE, Int.reduceLT, Int.reduceToNat, add_mk, reduceCtorEq, List.mem_range'_1, true_and, and_true, and_false, false_and, Nat.reduceLT, Nat.reduceLeDiff, tyF]
      refine (f1 _).mpr ?_
      simp (config := {maxSteps := 1000000, implicitDefEqProofs := false}) only [↓zvN, zvU, ↓up_apply, ↓hv_apply, ↓upO_some, ↓upO_none, ↓ev_tmp, ↓ev_const, ↓ev_func, ↓ev_global, init, Nat.reduceEqDiff, Nat.reduceAdd, Nat.reduceMul, Nat.reduceSub, ↓reduceIte, Int.reduceEq, Int.reduceNe, Nat.reduceLeDiff, one, Value.cells, Int.reduceLE, Int.reduceLT, Int.reduceToNat, add_mk, reduceCtorEq, List.mem_range'_1, true_and, and_true, and_false, false_and, Nat.reduceLT, Nat.reduceLeDiff, tyF, h26, ek, h5, h6]
      refine ⟨⟨?_, k + 1, t, n, st, rfl, rfl, by first | exact h6 | rfl, by omega, by omega, by omega, hs, hst, hb5.more hm7, hm05.trans hm7⟩, by simp only [numOf]; omega⟩
      repeat (first | exact Same.hv _ _ _ | refine Same.hv2 (fun s hs => mem_allS (by decide) hs) ?_ | refine Same.up (by simp) ?_)
    · obtain ⟨rfl, hb5⟩ := hno (fun h => h2 h.2)
      have en : IntKind.i64.wrap (n + 1) = n + 1 := w64 (by omega) (by omega)
      simp (config := {maxSteps := 1000000, implicitDefEqProofs := false}) only [↓zvN, zvU, ↓up_apply, ↓hv_apply, ↓upO_some, ↓upO_none, ↓ev_tmp, ↓ev_const, ↓ev_func, ↓ev_global, init, Nat.reduceEqDiff, Nat.reduceAdd, Nat.reduceMul, Nat.reduceSub, ↓reduceIte, Int.reduceEq, Int.reduceNe, Nat.reduceLeDiff, one, Value.cells, Int.reduceLE, Int.reduceLT, Int.reduceToNat, add_mk, reduceCtorEq, List.mem_range'_1, true_and, and_true, and_false, false_and, Nat.reduceLT, Nat.reduceLeDiff, tyF, h26, g0, h9, rc hm05, Int.toNat_natCast, h5, h6, h1, h2, tt, ff, tf, ft, en]
      have hs2 : (bump st 14 1).length = 31 := by rw [bump_len, hs]
      refine call_ok Tryz.call10 (eng_now w5 e s p now (bump st 14 1) hb5) ?_
      rintro _ w6 ⟨rfl, rfl⟩
      simp (config := {maxSteps := 1000000, implicitDefEqProofs := false}) only [↓zvN, zvU, ↓up_apply, ↓hv_apply, ↓upO_some, ↓upO_none, ↓ev_tmp, ↓ev_const, ↓ev_func, ↓ev_global, init, Nat.reduceEqDiff, Nat.reduceAdd, Nat.reduceMul, Nat.reduceSub, ↓reduceIte, Int.reduceEq, Int.reduceNe, Nat.reduceLeDiff, one, Value.cells, Int.reduceLE, Int.reduceLT, Int.reduceToNat, add_mk, reduceCtorEq, List.mem_range'_1, true_and, and_true, and_false, false_and, Nat.reduceLT, Nat.reduceLeDiff, tyF, h26, h5, h6, en]
      refine call_ok Tryz.call11 (eng_stats w6 e s p now (bump st 14 1) hs2 hb5) ?_
      rintro _ w7 ⟨rfl, hm7⟩
      have f0 := stats_N (st := (bump st 14 1)) hs2 w7
      have f1 := statsN_at (l := ((bump st 14 1)).take 15) (by rw [List.length_take, hs2]; rfl) 14 (by decide) w7
      have f2 : (((bump st 14 1)).take 15).getD 14 0 = n + 1 := by
        rw [List.getD_eq_getElem?_getD, List.getElem?_take_of_lt (by decide), ← List.getD_eq_getElem?_getD]
        first | exact hst | (rw [bump_at st hs, hst]; exact add_one n hn0 (by omega))
      rw [f2] at f1
      simp (config := {maxSteps := 1000000, implicitDefEqProofs := false}) only [↓zvN, zvU, ↓up_apply, ↓hv_apply, ↓upO_some, ↓upO_none, ↓ev_tmp, ↓ev_const, ↓ev_func, ↓ev_global, init, Nat.reduceEqDiff, Nat.reduceAdd, Nat.reduceMul, Nat.reduceSub, ↓reduceIte, Int.reduceEq, Int.reduceNe, Nat.reduceLeDiff, one, Value.cells, Int.reduceLE, Int.reduceLT, Int.reduceToNat, add_mk, reduceCtorEq, List.mem_range'_1, true_and, and_true, and_false, false_and, Nat.reduceLT, Nat.reduceLeDiff, tyF]
      rw [f0]
      simp (config := {maxSteps := 1000000, implicitDefEqProofs := false}) only [↓zvN, zvU, ↓up_apply, ↓hv_apply, ↓upO_some, ↓upO_none, ↓ev_tmp, ↓ev_const, ↓ev_func, ↓ev_global, init, Nat.reduceEqDiff, Nat.reduceAdd, Nat.reduceMul, Nat.reduceSub, ↓reduceIte, Int.reduceEq, Int.reduceNe, Nat.reduceLeDiff, one, Value.cells, Int.reduceLE, Int.reduceLT, Int.reduceToNat, add_mk, reduceCtorEq, List.mem_range'_1, true_and, and_true, and_false, false_and, Nat.reduceLT, Nat.reduceLeDiff, tyF]
      refine (f1 _).mpr ?_
      simp (config := {maxSteps := 1000000, implicitDefEqProofs := false}) only [↓zvN, zvU, ↓up_apply, ↓hv_apply, ↓upO_some, ↓upO_none, ↓ev_tmp, ↓ev_const, ↓ev_func, ↓ev_global, init, Nat.reduceEqDiff, Nat.reduceAdd, Nat.reduceMul, Nat.reduceSub, ↓reduceIte, Int.reduceEq, Int.reduceNe, Nat.reduceLeDiff, one, Value.cells, Int.reduceLE, Int.reduceLT, Int.reduceToNat, add_mk, reduceCtorEq, List.mem_range'_1, true_and, and_true, and_false, false_and, Nat.reduceLT, Nat.reduceLeDiff, tyF, h26, ek, h5, h6, en]
      refine ⟨⟨?_, k + 1, now, n + 1, bump st 14 1, rfl, by first | exact h5 | rfl, rfl, by omega, by omega, by omega, hs2, by rw [bump_at st hs, hst]; exact add_one n hn0 (by omega), hb5.more hm7, hm05.trans hm7⟩, by simp only [numOf]; omega⟩
      repeat (first | exact Same.hv _ _ _ | refine Same.hv2 (fun s hs => mem_allS (by decide) hs) ?_ | refine Same.up (by simp) ?_)
  · obtain ⟨rfl, hb5⟩ := hno (fun h => h1 h.1)
    have en : IntKind.i64.wrap (n + 1) = n + 1 := w64 (by omega) (by omega)
    simp (config := {maxSteps := 1000000, implicitDefEqProofs := false}) only [↓zvN, zvU, ↓up_apply, ↓hv_apply, ↓upO_some, ↓upO_none, ↓ev_tmp, ↓ev_const, ↓ev_func, ↓ev_global, init, Nat.reduceEqDiff, Nat.reduceAdd, Nat.reduceMul, Nat.reduceSub, ↓reduceIte, Int.reduceEq, Int.reduceNe, Nat.reduceLeDiff, one, Value.cells, Int.reduceLE, Int.reduceLT, Int.reduceToNat, add_mk, reduceCtorEq, List.mem_range'_1, true_and, and_true, and_false, false_and, Nat.reduceLT, Nat.reduceLeDiff, tyF, h26, g0, h9, rc hm05, Int.toNat_natCast, h5, h6, h1, tt, ff, tf, ft, en]
    have hs2 : (bump st 14 1).length = 31 := by rw [bump_len, hs]
    refine call_ok Tryz.call10 (eng_now w5 e s p now (bump st 14 1) hb5) ?_
    rintro _ w6 ⟨rfl, rfl⟩
    simp (config := {maxSteps := 1000000, implicitDefEqProofs := false}) only [↓zvN, zvU, ↓up_apply, ↓hv_apply, ↓upO_some, ↓upO_none, ↓ev_tmp, ↓ev_const, ↓ev_func, ↓ev_global, init, Nat.reduceEqDiff, Nat.reduceAdd, Nat.reduceMul, Nat.reduceSub, ↓reduceIte, Int.reduceEq, Int.reduceNe, Nat.reduceLeDiff, one, Value.cells, Int.reduceLE, Int.reduceLT, Int.reduceToNat, add_mk, reduceCtorEq, List.mem_range'_1, true_and, and_true, and_false, false_and, Nat.reduceLT, Nat.reduceLeDiff, tyF, h26, h5, h6, en]
    refine call_ok Tryz.call11 (eng_stats w6 e s p now (bump st 14 1) hs2 hb5) ?_
    rintro _ w7 ⟨rfl, hm7⟩
    have f0 := stats_N (st := (bump st 14 1)) hs2 w7
    have f1 := statsN_at (l := ((bump st 14 1)).take 15) (by rw [List.length_take, hs2]; rfl) 14 (by decide) w7
    have f2 : (((bump st 14 1)).take 15).getD 14 0 = n + 1 := by
      rw [List.getD_eq_getElem?_getD, List.getElem?_take_of_lt (by decide), ← List.getD_eq_getElem?_getD]
      first | exact hst | (rw [bump_at st hs, hst]; exact add_one n hn0 (by omega))
    rw [f2] at f1
    simp (config := {maxSteps := 1000000, implicitDefEqProofs := false}) only [↓zvN, zvU, ↓up_apply, ↓hv_apply, ↓upO_some, ↓upO_none, ↓ev_tmp, ↓ev_const, ↓ev_func, ↓ev_global, init, Nat.reduceEqDiff, Nat.reduceAdd, Nat.reduceMul, Nat.reduceSub, ↓reduceIte, Int.reduceEq, Int.reduceNe, Nat.reduceLeDiff, one, Value.cells, Int.reduceLE, Int.reduceLT, Int.reduceToNat, add_mk, reduceCtorEq, List.mem_range'_1, true_and, and_true, and_false, false_and, Nat.reduceLT, Nat.reduceLeDiff, tyF]
    rw [f0]
    simp (config := {maxSteps := 1000000, implicitDefEqProofs := false}) only [↓zvN, zvU, ↓up_apply, ↓hv_apply, ↓upO_some, ↓upO_none, ↓ev_tmp, ↓ev_const, ↓ev_func, ↓ev_global, init, Nat.reduceEqDiff, Nat.reduceAdd, Nat.reduceMul, Nat.reduceSub, ↓reduceIte, Int.reduceEq, Int.reduceNe, Nat.reduceLeDiff, one, Value.cells, Int.reduceLE, Int.reduceLT, Int.reduceToNat, add_mk, reduceCtorEq, List.mem_range'_1, true_and, and_true, and_false, false_and, Nat.reduceLT, Nat.reduceLeDiff, tyF]
    refine (f1 _).mpr ?_
    simp (config := {maxSteps := 1000000, implicitDefEqProofs := false}) only [↓zvN, zvU, ↓up_apply, ↓hv_apply, ↓upO_some, ↓upO_none, ↓ev_tmp, ↓ev_const, ↓ev_func, ↓ev_global, init, Nat.reduceEqDiff, Nat.reduceAdd, Nat.reduceMul, Nat.reduceSub, ↓reduceIte, Int.reduceEq, Int.reduceNe, Nat.reduceLeDiff, one, Value.cells, Int.reduceLE, Int.reduceLT, Int.reduceToNat, add_mk, reduceCtorEq, List.mem_range'_1, true_and, and_true, and_false, false_and, Nat.reduceLT, Nat.reduceLeDiff, tyF, h26, ek, h5, h6, en]
    refine ⟨⟨?_, k + 1, now, n + 1, bump st 14 1, rfl, by first | exact h5 | rfl, rfl, by omega, by omega, by omega, hs2, by rw [bump_at st hs, hst]; exact add_one n hn0 (by omega), hb5.more hm7, hm05.trans hm7⟩, by simp only [numOf]; omega⟩
    repeat (first | exact Same.hv _ _ _ | refine Same.hv2 (fun s hs => mem_allS (by decide) hs) ?_ | refine Same.up (by simp) ?_)
theorem ints_flat (l : List Int) : l.flatMap (fun n : Int => [Value.int .i64 n]) = ints l := by
  induction l with
  | nil => rfl
  | cons a l ih => rw [List.flatMap_cons, ih]; rfl
theorem longs_in {w : World} {k : Nat} {cs : List Value} (h : Lays Tryz.prog w k 22 cs) : ∃ (A : Option Addr) (l : List Int) (c : Nat), cs = [.slice A l.length c] ∧ Cs w A (ints l) := by
  obtain ⟨A, l, c, h1, _, h3, _⟩ := h.rowOf (E := fun n : Int => [Value.int .i64 n]) Tryz.underlying22 cells2 (by omega) (fun _ => True) fun k cs' h' hl => by
    obtain ⟨x, e0, _⟩ := h'.int Tryz.underlying2
    exact ⟨x, e0, trivial⟩
  rw [ints_flat] at h3
  exact ⟨A, l, c, h1, h3⟩
end Go.Proofs.YtahcaplhdgphcaaGreat
