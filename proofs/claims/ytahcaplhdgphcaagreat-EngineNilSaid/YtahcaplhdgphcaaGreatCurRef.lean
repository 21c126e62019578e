/-
  Layer 2: numbers that are put, and the reference.
-/
import Derived.Test.YtahcaplhdgphcaaGreatCurOut
namespace Go.Proofs.YtahcaplhdgphcaaGreat
open Go Go.RowKit Go.Proofs.RV
set_option linter.unusedSimpArgs false
set_option linter.unusedVariables false
set_option maxRecDepth 10000
set_option maxHeartbeats 2000000

theorem numB_cut (n : Int) (m r : Nat) (h : r ≤ m) : numB n m = (numB n m).take (m - r) ++ numB n r := by
  induction m with
  | zero => obtain rfl : r = 0 := by omega
            rfl
  | succ m ih =>
    rcases Nat.eq_or_lt_of_le h with rfl | h1
    · simp
    · rw [show m + 1 - r = (m - r) + 1 by omega, numB, List.take_succ_cons, List.cons_append, ← ih (by omega)]
theorem numB_take (n : Int) (m r : Nat) (h : r + 1 ≤ m) : (numB n m).take (m - (r + 1)) ++ [u8 (dig n r)] = (numB n m).take (m - r) := by
  have h1 := numB_cut n m (r + 1) h
  rw [numB] at h1
  have hl : ((numB n m).take (m - (r + 1))).length = m - (r + 1) := by rw [List.length_take, numB_len]; omega
  generalize (numB n m).take (m - (r + 1)) = t at h1 hl ⊢
  rw [h1, show m - r = t.length + 1 by omega]
  simp [List.take_append]
  exact (List.take_of_length_le (by omega)).symm
/-- a round of the loop that puts a number's bytes together -/
def NumJ (w : World) (n : Int) (m : Nat) (v6 v7 : Value) (w' : World) : Prop :=
  ∃ (r : Nat) (A : Option Addr) (c : Nat), r ≤ m ∧ v7 = .int .i64 ((r : Int) - 1) ∧ v6 = .slice A (m - r) c ∧ Own w' w.heap.size 5 1 A (m - r) c (((numB n m).take (m - r)).map byteV) ∧ More w w'
theorem out_number (w : World) (B q : Nat) (A : Option Addr) (c : Nat) (l : List UInt8) (n : Int) (m : Nat) (h : OutAt w B q A c l) (hl : l.length ≤ 2900000) (hn : 0 ≤ n) (hm : m ≤ 8) (hB : B ≤ w.heap.size) :
    Ret Tryz.prog 150 #[.pointer (some ⟨q, 0, none⟩), .int .u64 n, .int .i64 m] w fun v w' => v = .tuple #[] ∧ OutR w B q A (l ++ numB n m) w' := by
  refine ret_of Tryz.func150 rfl (by kernel_rfl) (Nat.le_of_ble_eq_true (by kernel_rfl)) ?_
  have e0 : IntKind.i64.wrap ((m : Int) - 1) = (m : Int) - 1 := w64 (by omega) (by omega)
  simp (config := {maxSteps := 1000000, implicitDefEqProofs := false}) only [↓zvD, zvU, ↓up_apply, ↓hv_apply, ↓upO_some, ↓upO_none, ↓ev_tmp, ↓ev_const, ↓ev_func, ↓ev_global, init, Nat.reduceEqDiff, Nat.reduceAdd, Nat.reduceMul, Nat.reduceSub, ↓reduceIte, Int.reduceEq, Int.reduceNe, Nat.reduceLeDiff, one, Value.cells, Int.reduceLE, Int.reduceLT, Int.reduceToNat, add_mk, reduceCtorEq, List.mem_range'_1, true_and, and_true, and_false, false_and, Nat.reduceLT, Nat.reduceLeDiff, tyF, e0]
  refine loop_p [6, 7, 10, 11, 12, 13, 14, 15, 16, 17, 18, 19, 20, 21] (fun e w' => NumJ w n m (e 6) (e 7) w') (fun e _ => (numOf (e 7) + 1).toNat) ?_ ?_
  · refine ⟨m, none, 0, Nat.le_refl _, by simp [hv_apply, up_apply, upO_some, upO_none, init, List.mem_cons, List.mem_range'_1, true_and, and_true, and_false, false_and, Nat.reduceLT, Nat.reduceLeDiff, Nat.reduceAdd, true_or, or_true, if_true, if_false, ↓reduceIte, Nat.reduceEqDiff, false_or, or_false, List.not_mem_nil, List.getElem?_cons_zero, List.getElem?_cons_succ, Option.getD_some], by simp [hv_apply, up_apply, upO_some, upO_none, init, List.mem_cons, List.mem_range'_1, true_and, and_true, and_false, false_and, Nat.reduceLT, Nat.reduceLeDiff, Nat.reduceAdd, true_or, or_true, if_true, if_false, ↓reduceIte, Nat.reduceEqDiff, false_or, or_false, List.not_mem_nil, List.getElem?_cons_zero, List.getElem?_cons_succ, Option.getD_some], ?_, More.refl w⟩
    simpa using Own.nil _ _ _ _
  · rintro v w1 ⟨r, A1, c1, hrm, h7, h6, ho, hm1⟩
    simp only [hv_apply, up_apply, upO_some, upO_none, init, List.mem_cons, List.mem_range'_1, true_and, and_true, and_false, false_and, Nat.reduceLT, Nat.reduceLeDiff, Nat.reduceAdd, true_or, or_true, if_true, if_false, ↓reduceIte, Nat.reduceEqDiff, false_or, or_false, List.not_mem_nil, List.getElem?_cons_zero, List.getElem?_cons_succ, Option.getD_some] at h6 h7
    simp (config := {maxSteps := 1000000, implicitDefEqProofs := false}) only [↓zvD, zvU, ↓up_apply, ↓hv_apply, ↓upO_some, ↓upO_none, ↓ev_tmp, ↓ev_const, ↓ev_func, ↓ev_global, init, Nat.reduceEqDiff, Nat.reduceAdd, Nat.reduceMul, Nat.reduceSub, ↓reduceIte, Int.reduceEq, Int.reduceNe, Nat.reduceLeDiff, one, Value.cells, Int.reduceLE, Int.reduceLT, Int.reduceToNat, add_mk, reduceCtorEq, List.mem_range'_1, true_and, and_true, and_false, false_and, Nat.reduceLT, Nat.reduceLeDiff, tyF, h6, h7]
    refine ⟨fun h1 => ?_, fun h1 => ?_⟩
    · obtain ⟨r, rfl⟩ : ∃ r', r = r' + 1 := ⟨r - 1, by omega⟩
      have hd := dig_range n r
      have e1 : ((r + 1 : Nat) : Int) - 1 = (r : Int) := by omega
      have e2 : IntKind.i64.wrap (8 * (r : Int)) = 8 * (r : Int) := w64 (by omega) (by omega)
      have e3 : (0 : Int) ≤ 8 * (r : Int) := by omega
      have e4 : n.fdiv (2 ^ min (8 * (r : Int)).toNat IntKind.u64.bits) = n / (256 ^ r : Nat) := shr_dig hn rfl (by omega)
      have e5 : IntKind.i64.wrap ((r : Int) - 1) = (r : Int) - 1 := w64 (by omega) (by omega)
      simp (config := {maxSteps := 1000000, implicitDefEqProofs := false}) only [↓zvD, zvU, ↓up_apply, ↓hv_apply, ↓upO_some, ↓upO_none, ↓ev_tmp, ↓ev_const, ↓ev_func, ↓ev_global, init, Nat.reduceEqDiff, Nat.reduceAdd, Nat.reduceMul, Nat.reduceSub, ↓reduceIte, Int.reduceEq, Int.reduceNe, Nat.reduceLeDiff, one, Value.cells, Int.reduceLE, Int.reduceLT, Int.reduceToNat, add_mk, reduceCtorEq, List.mem_range'_1, true_and, and_true, and_false, false_and, Nat.reduceLT, Nat.reduceLeDiff, tyF, h6, h7, e1, e2, e3, e4, wrap_dig]
      refine bslice (z := .int .u8 0) (cells := #[.int .u8 (dig n r)]) Tryz.underlying40 byteE (by omega) (by have := bcells_list (z := .int .u8 0) [.int .u8 (dig n r)] (by intro v hv; simp at hv; subst hv; rfl); exact this) ?_
      simp (config := {maxSteps := 1000000, implicitDefEqProofs := false}) only [↓zvD, zvU, ↓up_apply, ↓hv_apply, ↓upO_some, ↓upO_none, ↓ev_tmp, ↓ev_const, ↓ev_func, ↓ev_global, init, Nat.reduceEqDiff, Nat.reduceAdd, Nat.reduceMul, Nat.reduceSub, ↓reduceIte, Int.reduceEq, Int.reduceNe, Nat.reduceLeDiff, one, Value.cells, Int.reduceLE, Int.reduceLT, Int.reduceToNat, add_mk, reduceCtorEq, List.mem_range'_1, true_and, and_true, and_false, false_and, Nat.reduceLT, Nat.reduceLeDiff, tyF, h6]
      have hm2 := more_alloc w1 (.cells #[.int .u8 (dig n r)] 5)
      have hb2 := Blk.new w1 5 #[.int .u8 (dig n r)]
      have s2 := size_alloc w1 (.cells #[.int .u8 (dig n r)] 5)
      have hs1 := hm1.size
      generalize w1.alloc (.cells #[.int .u8 (dig n r)] 5) = w2 at hm2 hb2 s2 ⊢
      refine app_own (m := 1) Tryz.underlying40 byteE rfl (by omega) (ho.more hm2) hb2.cs rfl (by intro u hu; simp at hu; subst hu; rfl) (by simp only [maxLen]; omega) (by omega) (by omega) ?_
      intro A3 c3 w3 ho3 hg3 _
      have hm3 : More w w3 := grown_below (ho.more hm2) (hm1.trans hm2) (by omega) hg3
      simp (config := {maxSteps := 1000000, implicitDefEqProofs := false}) only [↓zvD, zvU, ↓up_apply, ↓hv_apply, ↓upO_some, ↓upO_none, ↓ev_tmp, ↓ev_const, ↓ev_func, ↓ev_global, init, Nat.reduceEqDiff, Nat.reduceAdd, Nat.reduceMul, Nat.reduceSub, ↓reduceIte, Int.reduceEq, Int.reduceNe, Nat.reduceLeDiff, one, Value.cells, Int.reduceLE, Int.reduceLT, Int.reduceToNat, add_mk, reduceCtorEq, List.mem_range'_1, true_and, and_true, and_false, false_and, Nat.reduceLT, Nat.reduceLeDiff, tyF, h6, h7, e1, e5]
      refine ⟨⟨?_, r, A3, c3, by omega, rfl, by congr 1; omega, ?_, hm3⟩, by simp only [numOf]; omega⟩
      · repeat (first | exact Same.hv _ _ _ | refine Same.up (by simp) ?_)
      · rw [← numB_take n m r (by omega), List.map_append, List.map_singleton, byteV_u8 hd.1 hd.2, show m - r = m - (r + 1) + 1 by omega]
        exact ho3
    · obtain rfl : r = 0 := by omega
      have hmore := h.more hm1
      have hfull : (numB n m).take m = numB n m := List.take_of_length_le (by rw [numB_len]; omega)
      rw [Nat.sub_zero, hfull] at ho
      simp (config := {maxSteps := 1000000, implicitDefEqProofs := false}) only [↓zvD, zvU, ↓up_apply, ↓hv_apply, ↓upO_some, ↓upO_none, ↓ev_tmp, ↓ev_const, ↓ev_func, ↓ev_global, init, Nat.reduceEqDiff, Nat.reduceAdd, Nat.reduceMul, Nat.reduceSub, ↓reduceIte, Int.reduceEq, Int.reduceNe, Nat.reduceLeDiff, one, Value.cells, Int.reduceLE, Int.reduceLT, Int.reduceToNat, add_mk, reduceCtorEq, List.mem_range'_1, true_and, and_true, and_false, false_and, Nat.reduceLT, Nat.reduceLeDiff, tyF, h6]
      refine call_ok Tryz.call47 (by have := out_raw w1 B q A c l A1 (numB n m) c1 hmore ho.cs (by omega) (by rw [numB_len]; omega) (Nat.le_trans hB hm1.size); rw [numB_len] at this; exact this) ?_
      rintro _ w2 ⟨rfl, A4, c4, g1, g2, g3⟩
      simp (config := {maxSteps := 1000000, implicitDefEqProofs := false}) only [↓zvD, zvU, ↓up_apply, ↓hv_apply, ↓upO_some, ↓upO_none, ↓ev_tmp, ↓ev_const, ↓ev_func, ↓ev_global, init, Nat.reduceEqDiff, Nat.reduceAdd, Nat.reduceMul, Nat.reduceSub, ↓reduceIte, Int.reduceEq, Int.reduceNe, Nat.reduceLeDiff, one, Value.cells, Int.reduceLE, Int.reduceLT, Int.reduceToNat, add_mk, reduceCtorEq, List.mem_range'_1, true_and, and_true, and_false, false_and, Nat.reduceLT, Nat.reduceLeDiff, tyF]
      refine ⟨A4, c4, g1, (Mod.of_more hm1).trans g2, fun k hk => ?_⟩
      rcases g3 k hk with h3 | h3
      · exact .inl h3
      · exact .inr (Nat.le_trans hm1.size h3)
theorem zerOut : zer Tryz.prog 96 = some (.agg #[.slice none 0 0]) := zer96
/-- an Out that is made -/
theorem out_made (w : World) : OutAt (w.alloc (.cells #[.slice none 0 0] 96)) w.heap.size w.heap.size none 0 [] := by
  refine ⟨Blk.new w _ _, Own.nil _ _ _ _, Nat.le_refl _, fun k hk => (atB_none k hk).elim⟩
theorem out_u16 (w : World) (B q : Nat) (A : Option Addr) (c : Nat) (l : List UInt8) (n : Int) (h : OutAt w B q A c l) (hl : l.length ≤ 2900000) (hn : 0 ≤ n ∧ n < 65536) (hB : B ≤ w.heap.size) :
    Ret Tryz.prog 85 #[.pointer (some ⟨q, 0, none⟩), .int .u16 n] w fun v w' => v = .tuple #[] ∧ OutR w B q A (l ++ numB n 2) w' := by
  refine ret_of Tryz.func85 rfl (by kernel_rfl) (Nat.le_of_ble_eq_true (by kernel_rfl)) ?_
  have e1 : IntKind.u64.wrap n = n := wu64 hn.1 (by omega)
  simp (config := {maxSteps := 1000000, implicitDefEqProofs := false}) only [↓zvD, zvU, ↓up_apply, ↓hv_apply, ↓upO_some, ↓upO_none, ↓ev_tmp, ↓ev_const, ↓ev_func, ↓ev_global, init, Nat.reduceEqDiff, Nat.reduceAdd, Nat.reduceMul, Nat.reduceSub, ↓reduceIte, Int.reduceEq, Int.reduceNe, Nat.reduceLeDiff, one, Value.cells, Int.reduceLE, Int.reduceLT, Int.reduceToNat, add_mk, reduceCtorEq, List.mem_range'_1, true_and, and_true, and_false, false_and, Nat.reduceLT, Nat.reduceLeDiff, tyF, e1]
  refine call_ok Tryz.call150 (out_number w B q A c l n 2 h hl hn.1 (by omega) hB) ?_
  rintro _ w1 ⟨rfl, h1⟩
  simp (config := {maxSteps := 1000000, implicitDefEqProofs := false}) only [↓zvD, zvU, ↓up_apply, ↓hv_apply, ↓upO_some, ↓upO_none, ↓ev_tmp, ↓ev_const, ↓ev_func, ↓ev_global, init, Nat.reduceEqDiff, Nat.reduceAdd, Nat.reduceMul, Nat.reduceSub, ↓reduceIte, Int.reduceEq, Int.reduceNe, Nat.reduceLeDiff, one, Value.cells, Int.reduceLE, Int.reduceLT, Int.reduceToNat, add_mk, reduceCtorEq, List.mem_range'_1, true_and, and_true, and_false, false_and, Nat.reduceLT, Nat.reduceLeDiff, tyF]
  exact h1
end Go.Proofs.YtahcaplhdgphcaaGreat
