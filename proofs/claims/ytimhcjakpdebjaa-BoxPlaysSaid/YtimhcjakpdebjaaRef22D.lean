/-
  Layer 22: the document's box: All.
-/
import Derived.Test.YtimhcjakpdebjaaRef22C
namespace Go.Proofs.Ytimhcjakpdebjaa
open Go Go.RowKit Go.Proofs.RV
set_option linter.unusedSimpArgs false
set_option linter.unusedVariables false
set_option maxRecDepth 10000
set_option maxHeartbeats 4000000
theorem rbox_rows (A : Option Addr) (n c : Nat) (room term rate burst : Int) (w0 : World) (K : Value → Prop) : pureP Try.prog (Instr.field 77 (.agg (rbox A n c room term rate burst).toArray) 0) K = K (.slice A n c) := by
  refine pure_eq (fun w => ?_) w0 K
  unfold Instr.field
  rw [Sem.run_bind, run_un Try.underlying77]
  simp only [Result.andThen_ok, List.getElem?_toArray, List.getElem?_cons_zero]
  rw [Sem.run_bind]
  simp only [asAgg, Sem.run_pure, Result.andThen_ok]
  unfold part
  rw [Sem.run_bind, isAgg_run Try.underlying75]
  simp [aggD, rbox]
def AllBJ (l : BoxL) (w : World) (v3 v7 : Value) (w' : World) : Prop :=
  ∃ (k : Nat) (A : Option Addr) (c : Nat), v7 = .int .i64 k ∧ k ≤ l.length ∧ v3 = .slice A k c ∧ Own w' w.heap.size 24 8 A k c ((keysM (l.take k)).flatMap PrefM.cells) ∧ More w w'
theorem ref_allB (w : World) (A : Option Addr) (L : BoxL) (c : Nat) (room term rate burst now : Int) (hA : Cs w A (L.flatMap (reB burst))) (hO : POk L) (hl : L.length ≤ 1000000) :
    Ret Try.prog 42 #[.agg (rbox A L.length c room term rate burst).toArray, .int .i64 now] w fun v w' => ∃ A' c', v = .slice A' (sweepL now L).length c' ∧ Cs w' A' ((keysM (sweepL now L)).flatMap PrefM.cells) ∧ More w w' := by
  refine ret_of Try.func42 rfl (by kernel_rfl) (Nat.le_of_ble_eq_true (by kernel_rfl)) ?_
  have hm1 := more_alloc w (.cells (rbox A L.length c room term rate burst).toArray 77)
  have hb1 := Blk.new w 77 (rbox A L.length c room term rate burst).toArray
  obtain ⟨w1, hw1⟩ : ∃ w1, w.alloc (.cells (rbox A L.length c room term rate burst).toArray 77) = w1 := ⟨_, rfl⟩
  simp (config := {maxSteps := 1000000}) only [↓zvN, zvU, ↓up_apply, ↓hv_apply, ↓upO_some, ↓upO_none, ↓ev_tmp, ↓ev_const, ↓ev_func, ↓ev_global, init, Nat.reduceEqDiff, Nat.reduceAdd, Nat.reduceMul, Nat.reduceSub, ↓reduceIte, Int.reduceEq, Int.reduceNe, Nat.reduceLeDiff, one, Value.cells, Int.reduceLE, Int.reduceLT, Int.reduceToNat, add_mk, reduceCtorEq, List.mem_range'_1, true_and, and_true, and_false, false_and, Nat.reduceLT, Nat.reduceLeDiff, tyF]
  rw [hw1] at hm1 hb1 ⊢
  clear hw1
  rw [List.toList_toArray] at hb1
  have v1 := hb1.all_eq 5 rfl
  simp (config := {maxSteps := 1000000}) only [↓zvN, zvU, ↓up_apply, ↓hv_apply, ↓upO_some, ↓upO_none, ↓ev_tmp, ↓ev_const, ↓ev_func, ↓ev_global, init, Nat.reduceEqDiff, Nat.reduceAdd, Nat.reduceMul, Nat.reduceSub, ↓reduceIte, Int.reduceEq, Int.reduceNe, Nat.reduceLeDiff, one, Value.cells, Int.reduceLE, Int.reduceLT, Int.reduceToNat, add_mk, reduceCtorEq, List.mem_range'_1, true_and, and_true, and_false, false_and, Nat.reduceLT, Nat.reduceLeDiff, tyF, v1]
  refine call_ok Try.call38 (ref_sweep w1 A L c room term rate burst now (hA.more hm1) hO hl) ?_
  rintro _ w2 ⟨A2, c2, rfl, hlc2, hA2, hge2, hm2⟩
  obtain ⟨S, hS⟩ : ∃ S, sweepL now L = S := ⟨_, rfl⟩
  have hO2 : POk S := by rw [← hS]; exact fun e he => hO e (List.mem_filter.1 he).1
  have hl2 : S.length ≤ 1000000 := by rw [← hS]; exact Nat.le_trans (sweep_len now L) hl
  rw [hS] at hlc2 hA2 ⊢
  have hm02 := hm1.trans hm2
  clear hm1 hm2 hb1 v1 hge2
  simp (config := {maxSteps := 1000000}) only [↓zvN, zvU, ↓up_apply, ↓hv_apply, ↓upO_some, ↓upO_none, ↓ev_tmp, ↓ev_const, ↓ev_func, ↓ev_global, init, Nat.reduceEqDiff, Nat.reduceAdd, Nat.reduceMul, Nat.reduceSub, ↓reduceIte, Int.reduceEq, Int.reduceNe, Nat.reduceLeDiff, one, Value.cells, Int.reduceLE, Int.reduceLT, Int.reduceToNat, add_mk, reduceCtorEq, List.mem_range'_1, true_and, and_true, and_false, false_and, Nat.reduceLT, Nat.reduceLeDiff, tyF, rbox_rows _ _ _ _ _ _ _ w2]
  refine loop_p (5 :: 7 :: List.range' 14 12) (fun e w' => AllBJ S w2 (e 5) (e 14) w') (fun e _ => S.length - (numOf (e 14)).toNat) ?_ ?_
  · exact ⟨0, none, 0, by simp only [hv_apply, up_apply, upO_some, upO_none, init, List.mem_cons, List.mem_range'_1, true_and, and_true, and_false, false_and, Nat.reduceLT, Nat.reduceLeDiff, Nat.reduceAdd, true_or, or_true, if_true, if_false, ↓reduceIte, Nat.reduceEqDiff, false_or, or_false, List.not_mem_nil, List.getElem?_cons_zero, List.getElem?_cons_succ, Option.getD_some] <;> rfl, by omega, by simp only [hv_apply, up_apply, upO_some, upO_none, init, List.mem_cons, List.mem_range'_1, true_and, and_true, and_false, false_and, Nat.reduceLT, Nat.reduceLeDiff, Nat.reduceAdd, true_or, or_true, if_true, if_false, ↓reduceIte, Nat.reduceEqDiff, false_or, or_false, List.not_mem_nil, List.getElem?_cons_zero, List.getElem?_cons_succ, Option.getD_some] <;> rfl, Own.nil _ _ _ _, More.refl _⟩
  rintro v w3 ⟨k, A3, c3, h7, hk, h3, ho3, hm3⟩
  simp only [hv_apply, up_apply, upO_some, upO_none, init, List.mem_cons, List.mem_range'_1, true_and, and_true, and_false, false_and, Nat.reduceLT, Nat.reduceLeDiff, Nat.reduceAdd, true_or, or_true, if_true, if_false, ↓reduceIte, Nat.reduceEqDiff, false_or, or_false, List.not_mem_nil, List.getElem?_cons_zero, List.getElem?_cons_succ, Option.getD_some] at h7 h3
  have ek : IntKind.i64.wrap ((k : Int) + 1) = ((k + 1 : Nat) : Int) := w64 (by omega) (by omega)
  simp (config := {maxSteps := 1000000}) only [↓zvN, zvU, ↓up_apply, ↓hv_apply, ↓upO_some, ↓upO_none, ↓ev_tmp, ↓ev_const, ↓ev_func, ↓ev_global, init, Nat.reduceEqDiff, Nat.reduceAdd, Nat.reduceMul, Nat.reduceSub, ↓reduceIte, Int.reduceEq, Int.reduceNe, Nat.reduceLeDiff, one, Value.cells, Int.reduceLE, Int.reduceLT, Int.reduceToNat, add_mk, reduceCtorEq, List.mem_range'_1, true_and, and_true, and_false, false_and, Nat.reduceLT, Nat.reduceLeDiff, tyF, h7, h3]
  refine ⟨fun h9 => ?_, fun h9 => ?_⟩
  rotate_left
  · obtain rfl : k = S.length := by omega
    rw [List.take_length] at ho3
    exact ⟨A3, c3, rfl, ho3.cs, hm02.trans hm3⟩
  obtain ⟨m, hm⟩ := row_nat S k (by omega)
  obtain ⟨a, rfl⟩ := hA2.some_of (by rw [row_len (s := 13) S hO2.lens]; omega)
  have hmo := hO2 m (List.mem_of_getElem? hm)
  have hA3 := hA2.more hm3
  have h8 : m.1.cells.length = 8 := by simp [PrefM.cells, hmo]
  have rd : ∀ K : Value → Prop, ldRow 8 (a.add (k * 13)) w3 K = K (.agg m.1.cells.toArray) := fun K => by
    refine ldRow_eq h8 (fun j hj => ?_) K
    rw [hA3.elemA (s := 13) hO2.lens hm (by omega), reB, List.getElem?_append_left (by omega)]
  have g0 : (0 : Int) ≤ (k : Int) := by omega
  simp (config := {maxSteps := 1000000}) only [↓zvN, zvU, ↓up_apply, ↓hv_apply, ↓upO_some, ↓upO_none, ↓ev_tmp, ↓ev_const, ↓ev_func, ↓ev_global, init, Nat.reduceEqDiff, Nat.reduceAdd, Nat.reduceMul, Nat.reduceSub, ↓reduceIte, Int.reduceEq, Int.reduceNe, Nat.reduceLeDiff, one, Value.cells, Int.reduceLE, Int.reduceLT, Int.reduceToNat, add_mk, reduceCtorEq, List.mem_range'_1, true_and, and_true, and_false, false_and, Nat.reduceLT, Nat.reduceLeDiff, tyF, h7, h3, g0, h9, addr_zero, rd, Int.toNat_natCast]
  refine bslice1 Try.underlying39 prefE (by omega) (by omega) h8 ?_
  have hm6 := more_alloc w3 (.cells m.1.cells.toArray 24)
  have hb6 := Blk.new w3 24 m.1.cells.toArray
  simp (config := {maxSteps := 1000000}) only [↓zvN, zvU, ↓up_apply, ↓hv_apply, ↓upO_some, ↓upO_none, ↓ev_tmp, ↓ev_const, ↓ev_func, ↓ev_global, init, Nat.reduceEqDiff, Nat.reduceAdd, Nat.reduceMul, Nat.reduceSub, ↓reduceIte, Int.reduceEq, Int.reduceNe, Nat.reduceLeDiff, one, Value.cells, Int.reduceLE, Int.reduceLT, Int.reduceToNat, add_mk, reduceCtorEq, List.mem_range'_1, true_and, and_true, and_false, false_and, Nat.reduceLT, Nat.reduceLeDiff, tyF, h7, h3]
  obtain ⟨w6, hw6⟩ : ∃ w6, w3.alloc (.cells m.1.cells.toArray 24) = w6 := ⟨_, rfl⟩
  rw [hw6] at hm6 hb6 ⊢
  clear hw6
  rw [List.toList_toArray] at hb6
  have hsz := (hm3.trans hm6).size
  refine app_mod (m := 1) (news := m.1.cells) Try.underlying39 prefE rfl (by omega) (ho3.more hm6) hb6.cs (by rw [h8]) (PrefM.one _) (by simp only [maxLen]; omega) (by omega) (by omega) ?_
  intro A9 c9 w9 ho9 hmod9 hat9
  have hm9 : More w2 w9 := Mod.more (hm3.trans hm6) hmod9 (fun k hk h => by have := ho3.atB_ge h; omega)
  simp (config := {maxSteps := 1000000}) only [↓zvN, zvU, ↓up_apply, ↓hv_apply, ↓upO_some, ↓upO_none, ↓ev_tmp, ↓ev_const, ↓ev_func, ↓ev_global, init, Nat.reduceEqDiff, Nat.reduceAdd, Nat.reduceMul, Nat.reduceSub, ↓reduceIte, Int.reduceEq, Int.reduceNe, Nat.reduceLeDiff, one, Value.cells, Int.reduceLE, Int.reduceLT, Int.reduceToNat, add_mk, reduceCtorEq, List.mem_range'_1, true_and, and_true, and_false, false_and, Nat.reduceLT, Nat.reduceLeDiff, tyF, h7, h3, ek]
  have hrow : (keysM (S.take (k + 1))).flatMap PrefM.cells = (keysM (S.take k)).flatMap PrefM.cells ++ m.1.cells := by
    rw [List.take_add_one, hm]
    simp [keysM]
  refine ⟨⟨?_, k + 1, A9, c9, rfl, by omega, rfl, by rw [hrow]; exact ho9, hm9⟩, by simp only [numOf]; omega⟩
  repeat (first | exact Same.hv _ _ _ | refine Same.up (by simp) ?_)
end Go.Proofs.Ytimhcjakpdebjaa
