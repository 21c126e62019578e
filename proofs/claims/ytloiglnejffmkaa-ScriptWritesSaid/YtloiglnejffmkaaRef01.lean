/-
  The references of layers 1 and 2: counts; numbers as bytes, and back.
-/
import Derived.Test.YtloiglnejffmkaaCount
import Derived.Test.YtloiglnejffmkaaCurRef
import Derived.Test.YtloiglnejffmkaaFi
namespace Go.Proofs.Ytloiglnejffmkaa
open Go Go.RowKit Go.Proofs.RV
set_option linter.unusedSimpArgs false
set_option linter.unusedVariables false
set_option maxRecDepth 10000
set_option maxHeartbeats 4000000

theorem ref_count (w : World) (n : Int) : Ret Try.prog 122 #[.int .i64 n] w fun v w' => v = .int .i64 (countM n) ∧ w' = w := by
  refine ret_of Try.func122 rfl (by kernel_rfl) (Nat.le_of_ble_eq_true (by kernel_rfl)) ?_
  simp (config := {maxSteps := 1000000}) only [↓zvD, zvU, ↓up_apply, ↓hv_apply, ↓upO_some, ↓upO_none, ↓ev_tmp, ↓ev_const, ↓ev_func, ↓ev_global, init, Nat.reduceEqDiff, Nat.reduceAdd, Nat.reduceMul, Nat.reduceSub, ↓reduceIte, Int.reduceEq, Int.reduceNe, Nat.reduceLeDiff, one, Value.cells, Int.reduceLE, Int.reduceLT, Int.reduceToNat, add_mk, reduceCtorEq, List.mem_range'_1, true_and, and_true, and_false, false_and, Nat.reduceLT, Nat.reduceLeDiff, tyF]
  refine ⟨fun h => ?_, fun h => ⟨fun h1 => ?_, fun h1 => ?_⟩⟩
  · congr 1; unfold countM; omega
  · congr 1; unfold countM; omega
  · congr 1; unfold countM; omega
theorem ref_add (w : World) (a b : Int) : Ret Try.prog 105 #[.int .i64 a, .int .i64 b] w fun v w' => v = .int .i64 (addM a b) ∧ w' = w := by
  refine ret_of Try.func105 rfl (by kernel_rfl) (Nat.le_of_ble_eq_true (by kernel_rfl)) ?_
  have ha := countM_range a
  have hb := countM_range b
  have ea : IntKind.u64.wrap (countM a) = countM a := wu64 ha.1 (by omega)
  have eb : IntKind.u64.wrap (countM b) = countM b := wu64 hb.1 (by omega)
  have es : IntKind.u64.wrap (countM a + countM b) = countM a + countM b := wu64 (by omega) (by omega)
  simp (config := {maxSteps := 1000000}) only [↓zvD, zvU, ↓up_apply, ↓hv_apply, ↓upO_some, ↓upO_none, ↓ev_tmp, ↓ev_const, ↓ev_func, ↓ev_global, init, Nat.reduceEqDiff, Nat.reduceAdd, Nat.reduceMul, Nat.reduceSub, ↓reduceIte, Int.reduceEq, Int.reduceNe, Nat.reduceLeDiff, one, Value.cells, Int.reduceLE, Int.reduceLT, Int.reduceToNat, add_mk, reduceCtorEq, List.mem_range'_1, true_and, and_true, and_false, false_and, Nat.reduceLT, Nat.reduceLeDiff, tyF]
  refine call_ok Try.call122 (ref_count w a) ?_
  rintro _ w1 ⟨rfl, rfl⟩
  simp (config := {maxSteps := 1000000}) only [↓zvD, zvU, ↓up_apply, ↓hv_apply, ↓upO_some, ↓upO_none, ↓ev_tmp, ↓ev_const, ↓ev_func, ↓ev_global, init, Nat.reduceEqDiff, Nat.reduceAdd, Nat.reduceMul, Nat.reduceSub, ↓reduceIte, Int.reduceEq, Int.reduceNe, Nat.reduceLeDiff, one, Value.cells, Int.reduceLE, Int.reduceLT, Int.reduceToNat, add_mk, reduceCtorEq, List.mem_range'_1, true_and, and_true, and_false, false_and, Nat.reduceLT, Nat.reduceLeDiff, tyF]
  refine call_ok Try.call122 (ref_count w1 b) ?_
  rintro _ w2 ⟨rfl, rfl⟩
  simp (config := {maxSteps := 1000000}) only [↓zvD, zvU, ↓up_apply, ↓hv_apply, ↓upO_some, ↓upO_none, ↓ev_tmp, ↓ev_const, ↓ev_func, ↓ev_global, init, Nat.reduceEqDiff, Nat.reduceAdd, Nat.reduceMul, Nat.reduceSub, ↓reduceIte, Int.reduceEq, Int.reduceNe, Nat.reduceLeDiff, one, Value.cells, Int.reduceLE, Int.reduceLT, Int.reduceToNat, add_mk, reduceCtorEq, List.mem_range'_1, true_and, and_true, and_false, false_and, Nat.reduceLT, Nat.reduceLeDiff, tyF, ea, eb, es]
  refine ⟨fun h => ?_, fun h => ?_⟩
  · congr 1; unfold addM; omega
  · have ew : IntKind.i64.wrap (countM a + countM b) = countM a + countM b := w64 (by omega) (by omega)
    rw [ew]
    congr 1; unfold addM; omega
def NumK (w : World) (n : Int) (m : Nat) (v5 v6 : Value) (w' : World) : Prop :=
  ∃ (r : Nat) (A : Option Addr) (c : Nat), r ≤ m ∧ v6 = .int .i64 ((r : Int) - 1) ∧ v5 = .slice A (m - r) c ∧ Own w' w.heap.size 5 1 A (m - r) c (((numB n m).take (m - r)).map byteV) ∧ More w w'
theorem ref_number (w : World) (n : Int) (m : Nat) (hn : 0 ≤ n) (hm : m ≤ 8) :
    Ret Try.prog 25 #[.int .u64 n, .int .i64 m] w fun v w' => ∃ A c, v = .slice A (numB n m).length c ∧ Own w' w.heap.size 5 1 A (numB n m).length c ((numB n m).map byteV) ∧ More w w' := by
  refine ret_of Try.func25 rfl (by kernel_rfl) (Nat.le_of_ble_eq_true (by kernel_rfl)) ?_
  have e0 : IntKind.i64.wrap ((m : Int) - 1) = (m : Int) - 1 := w64 (by omega) (by omega)
  simp (config := {maxSteps := 1000000}) only [↓zvD, zvU, ↓up_apply, ↓hv_apply, ↓upO_some, ↓upO_none, ↓ev_tmp, ↓ev_const, ↓ev_func, ↓ev_global, init, Nat.reduceEqDiff, Nat.reduceAdd, Nat.reduceMul, Nat.reduceSub, ↓reduceIte, Int.reduceEq, Int.reduceNe, Nat.reduceLeDiff, one, Value.cells, Int.reduceLE, Int.reduceLT, Int.reduceToNat, add_mk, reduceCtorEq, List.mem_range'_1, true_and, and_true, and_false, false_and, Nat.reduceLT, Nat.reduceLeDiff, tyF, e0]
  refine loop_p [5, 6, 9, 10, 11, 12, 13, 14, 15, 16, 17, 18, 19, 20, 21] (fun e w' => NumK w n m (e 5) (e 6) w') (fun e _ => (numOf (e 6) + 1).toNat) ?_ ?_
  · refine ⟨m, none, 0, Nat.le_refl _, by simp [hv_apply, up_apply, upO_some, upO_none, init, List.mem_cons, List.mem_range'_1, true_and, and_true, and_false, false_and, Nat.reduceLT, Nat.reduceLeDiff, Nat.reduceAdd, true_or, or_true, if_true, if_false, ↓reduceIte, Nat.reduceEqDiff, false_or, or_false, List.not_mem_nil, List.getElem?_cons_zero, List.getElem?_cons_succ, Option.getD_some], by simp [hv_apply, up_apply, upO_some, upO_none, init, List.mem_cons, List.mem_range'_1, true_and, and_true, and_false, false_and, Nat.reduceLT, Nat.reduceLeDiff, Nat.reduceAdd, true_or, or_true, if_true, if_false, ↓reduceIte, Nat.reduceEqDiff, false_or, or_false, List.not_mem_nil, List.getElem?_cons_zero, List.getElem?_cons_succ, Option.getD_some], ?_, More.refl w⟩
    simpa using Own.nil _ _ _ _
  · rintro v w1 ⟨r, A1, c1, hrm, h7, h6, ho, hm1⟩
    simp only [hv_apply, up_apply, upO_some, upO_none, init, List.mem_cons, List.mem_range'_1, true_and, and_true, and_false, false_and, Nat.reduceLT, Nat.reduceLeDiff, Nat.reduceAdd, true_or, or_true, if_true, if_false, ↓reduceIte, Nat.reduceEqDiff, false_or, or_false, List.not_mem_nil, List.getElem?_cons_zero, List.getElem?_cons_succ, Option.getD_some] at h6 h7
    simp (config := {maxSteps := 1000000}) only [↓zvD, zvU, ↓up_apply, ↓hv_apply, ↓upO_some, ↓upO_none, ↓ev_tmp, ↓ev_const, ↓ev_func, ↓ev_global, init, Nat.reduceEqDiff, Nat.reduceAdd, Nat.reduceMul, Nat.reduceSub, ↓reduceIte, Int.reduceEq, Int.reduceNe, Nat.reduceLeDiff, one, Value.cells, Int.reduceLE, Int.reduceLT, Int.reduceToNat, add_mk, reduceCtorEq, List.mem_range'_1, true_and, and_true, and_false, false_and, Nat.reduceLT, Nat.reduceLeDiff, tyF, h6, h7]
    refine ⟨fun h1 => ?_, fun h1 => ?_⟩
    · obtain ⟨r, rfl⟩ : ∃ r', r = r' + 1 := ⟨r - 1, by omega⟩
      have hd := dig_range n r
      have e1 : ((r + 1 : Nat) : Int) - 1 = (r : Int) := by omega
      have e2 : IntKind.u64.wrap (r : Int) = (r : Int) := wu64 (by omega) (by omega)
      have e2' : IntKind.u64.wrap (8 * (r : Int)) = 8 * (r : Int) := wu64 (by omega) (by omega)
      have e3 : (0 : Int) ≤ 8 * (r : Int) := by omega
      have e4 : n.fdiv (2 ^ min (8 * (r : Int)).toNat IntKind.u64.bits) = n / (256 ^ r : Nat) := shr_dig hn rfl (by omega)
      have e5 : IntKind.i64.wrap ((r : Int) - 1) = (r : Int) - 1 := w64 (by omega) (by omega)
      simp (config := {maxSteps := 1000000}) only [↓zvD, zvU, ↓up_apply, ↓hv_apply, ↓upO_some, ↓upO_none, ↓ev_tmp, ↓ev_const, ↓ev_func, ↓ev_global, init, Nat.reduceEqDiff, Nat.reduceAdd, Nat.reduceMul, Nat.reduceSub, ↓reduceIte, Int.reduceEq, Int.reduceNe, Nat.reduceLeDiff, one, Value.cells, Int.reduceLE, Int.reduceLT, Int.reduceToNat, add_mk, reduceCtorEq, List.mem_range'_1, true_and, and_true, and_false, false_and, Nat.reduceLT, Nat.reduceLeDiff, tyF, h6, h7, e1, e2, e2', e3, e4, wrap_dig]
      refine bslice (z := .int .u8 0) (cells := #[.int .u8 (dig n r)]) Try.underlying22 byteE (by omega) (by have := bcells_list (z := .int .u8 0) [.int .u8 (dig n r)] (by intro v hv; simp at hv; subst hv; rfl); exact this) ?_
      simp (config := {maxSteps := 1000000}) only [↓zvD, zvU, ↓up_apply, ↓hv_apply, ↓upO_some, ↓upO_none, ↓ev_tmp, ↓ev_const, ↓ev_func, ↓ev_global, init, Nat.reduceEqDiff, Nat.reduceAdd, Nat.reduceMul, Nat.reduceSub, ↓reduceIte, Int.reduceEq, Int.reduceNe, Nat.reduceLeDiff, one, Value.cells, Int.reduceLE, Int.reduceLT, Int.reduceToNat, add_mk, reduceCtorEq, List.mem_range'_1, true_and, and_true, and_false, false_and, Nat.reduceLT, Nat.reduceLeDiff, tyF, h6]
      have hm2 := more_alloc w1 (.cells #[.int .u8 (dig n r)] 5)
      have hb2 := Blk.new w1 5 #[.int .u8 (dig n r)]
      have s2 := size_alloc w1 (.cells #[.int .u8 (dig n r)] 5)
      have hs1 := hm1.size
      generalize w1.alloc (.cells #[.int .u8 (dig n r)] 5) = w2 at hm2 hb2 s2 ⊢
      refine app_own (m := 1) Try.underlying22 byteE rfl (by omega) (ho.more hm2) hb2.cs rfl (by intro u hu; simp at hu; subst hu; rfl) (by simp only [maxLen]; omega) (by omega) (by omega) ?_
      intro A3 c3 w3 ho3 hg3 _
      have hm3 : More w w3 := grown_below (ho.more hm2) (hm1.trans hm2) (by omega) hg3
      simp (config := {maxSteps := 1000000}) only [↓zvD, zvU, ↓up_apply, ↓hv_apply, ↓upO_some, ↓upO_none, ↓ev_tmp, ↓ev_const, ↓ev_func, ↓ev_global, init, Nat.reduceEqDiff, Nat.reduceAdd, Nat.reduceMul, Nat.reduceSub, ↓reduceIte, Int.reduceEq, Int.reduceNe, Nat.reduceLeDiff, one, Value.cells, Int.reduceLE, Int.reduceLT, Int.reduceToNat, add_mk, reduceCtorEq, List.mem_range'_1, true_and, and_true, and_false, false_and, Nat.reduceLT, Nat.reduceLeDiff, tyF, h6, h7, e1, e5]
      refine ⟨⟨?_, r, A3, c3, by omega, rfl, by congr 1; omega, ?_, hm3⟩, by simp only [numOf]; omega⟩
      · repeat (first | exact Same.hv _ _ _ | refine Same.up (by simp) ?_)
      · rw [← numB_take n m r (by omega), List.map_append, List.map_singleton, byteV_u8 hd.1 hd.2, show m - r = m - (r + 1) + 1 by omega]
        exact ho3
    · obtain rfl : r = 0 := by omega
      have hfull : (numB n m).take m = numB n m := List.take_of_length_le (by rw [numB_len]; omega)
      rw [Nat.sub_zero, hfull] at ho
      simp (config := {maxSteps := 1000000}) only [↓zvD, zvU, ↓up_apply, ↓hv_apply, ↓upO_some, ↓upO_none, ↓ev_tmp, ↓ev_const, ↓ev_func, ↓ev_global, init, Nat.reduceEqDiff, Nat.reduceAdd, Nat.reduceMul, Nat.reduceSub, ↓reduceIte, Int.reduceEq, Int.reduceNe, Nat.reduceLeDiff, one, Value.cells, Int.reduceLE, Int.reduceLT, Int.reduceToNat, add_mk, reduceCtorEq, List.mem_range'_1, true_and, and_true, and_false, false_and, Nat.reduceLT, Nat.reduceLeDiff, tyF, h6]
      exact ⟨A1, c1, by rw [numB_len], by rw [numB_len]; exact ho, hm1⟩
theorem rinFields (f : Field) (h : f ∈ (#[{ name := "B", type := 22, offset := 0, embedded := false, tag := "", pkgPath := "", byteOffset := 0 }, { name := "Bad", type := 4, offset := 1, embedded := false, tag := "", pkgPath := "", byteOffset := 24 }] : Array Field)) : Try.prog.cellsOf f.type ≠ 0 := by
  simp only [List.mem_toArray, List.mem_cons, List.not_mem_nil, or_false] at h
  rcases h with rfl | rfl <;> simp [cells22, cells4]
theorem rin_build (A : Option Addr) (n c : Nat) (w0 : World) (K : Value → Prop) : pureP Try.prog (Instr.build 51 #[(0, .slice A n c)]) K = K (.agg #[.slice A n c, .bool false]) :=
  build_eq (out := [.slice A n c, .bool false]) Try.underlying51 zer51 rinFields (by
    simp only [laid, List.getElem?_toArray, List.getElem?_cons_zero, List.getElem?_cons_succ, Option.map_some, Option.bind_some, cells22, cells4]
    rfl) w0 K
theorem rin_bad (w0 : World) (K : Value → Prop) : pureP Try.prog (Instr.build 51 #[(1, .bool true)]) K = K (.agg #[.slice none 0 0, .bool true]) :=
  build_eq (out := [.slice none 0 0, .bool true]) Try.underlying51 zer51 rinFields (by
    simp only [laid, List.getElem?_toArray, List.getElem?_cons_zero, List.getElem?_cons_succ, Option.map_some, Option.bind_some, cells22, cells4]
    rfl) w0 K
/-- the reference's In -/
abbrev rin (A : Option Addr) (n c : Nat) (b : Bool) : Value := .agg #[.slice A n c, .bool b]
theorem ref_raw (w : World) (A : Option Addr) (n c : Nat) (b : Bool) (m : Int) (hc : n ≤ c) :
    Ret Try.prog 34 #[rin A n c b, .int .i64 m] w fun v w' => v = (if b = true ∨ m < 0 ∨ (n : Int) < m then .tuple #[.slice none 0 0, rin none 0 0 true] else .tuple #[.slice A m.toNat c, rin (adv A c m.toNat 1) (n - m.toNat) (c - m.toNat) false]) ∧ More w w' := by
  refine ret_of Try.func34 rfl (by kernel_rfl) (Nat.le_of_ble_eq_true (by kernel_rfl)) ?_
  simp (config := {maxSteps := 1000000}) only [↓zvD, zvU, ↓up_apply, ↓hv_apply, ↓upO_some, ↓upO_none, ↓ev_tmp, ↓ev_const, ↓ev_func, ↓ev_global, init, Nat.reduceEqDiff, Nat.reduceAdd, Nat.reduceMul, Nat.reduceSub, ↓reduceIte, Int.reduceEq, Int.reduceNe, Nat.reduceLeDiff, one, Value.cells, Int.reduceLE, Int.reduceLT, Int.reduceToNat, add_mk, reduceCtorEq, List.mem_range'_1, true_and, and_true, and_false, false_and, Nat.reduceLT, Nat.reduceLeDiff, tyF, zer51]
  have hm1 := more_alloc w (.cells #[.slice A n c, .bool b] 51)
  have hb1 := Blk.new w 51 #[.slice A n c, .bool b]
  have s1 := size_alloc w (.cells #[.slice A n c, .bool b] 51)
  generalize w.alloc (.cells #[.slice A n c, .bool b] 51) = w1 at hm1 hb1 s1 ⊢
  have hm2 := more_alloc w1 (.cells #[.slice none 0 0, .bool false] 51)
  have hb2 := Blk.new w1 51 #[.slice none 0 0, .bool false]
  have s2 := size_alloc w1 (.cells #[.slice none 0 0, .bool false] 51)
  generalize w1.alloc (.cells #[.slice none 0 0, .bool false] 51) = w2 at hm2 hb2 s2 ⊢
  have hb12 := hb1.more hm2
  have hm := hm1.trans hm2
  have bad : (b = true ∨ m < 0 ∨ (n : Int) < m) → stRow 2 #[.slice none 0 0, .bool true] ⟨w1.heap.size, 0, none⟩ w2 fun w' => (ldRow 2 ⟨w1.heap.size, 0, none⟩ w' fun v => Value.tuple #[.slice none 0 0, v] = (if b = true ∨ m < 0 ∨ (n : Int) < m then .tuple #[.slice none 0 0, .agg #[.slice none 0 0, .bool true]] else .tuple #[.slice A m.toNat c, .agg #[.slice (adv A c m.toNat 1) (n - m.toNat) (c - m.toNat), .bool false]]) ∧ More w w') := by
    intro h
    refine st_all hb2 rfl rfl (by intro u hu; simp at hu; rcases hu with rfl | rfl <;> rfl) fun w3 k1 k2 => ?_
    rw [k2.all_eq 2 rfl, if_pos h]
    exact ⟨rfl, k1.below hm (by omega)⟩
  cases b with
  | true =>
    simp (config := {maxSteps := 1000000}) only [↓zvD, zvU, ↓up_apply, ↓hv_apply, ↓upO_some, ↓upO_none, ↓ev_tmp, ↓ev_const, ↓ev_func, ↓ev_global, init, Nat.reduceEqDiff, Nat.reduceAdd, Nat.reduceMul, Nat.reduceSub, ↓reduceIte, Int.reduceEq, Int.reduceNe, Nat.reduceLeDiff, one, Value.cells, Int.reduceLE, Int.reduceLT, Int.reduceToNat, add_mk, reduceCtorEq, List.mem_range'_1, true_and, and_true, and_false, false_and, Nat.reduceLT, Nat.reduceLeDiff, tyF, hb12.cell, rin_bad w2]
    exact bad (.inl rfl)
  | false => 
    simp (config := {maxSteps := 1000000}) only [↓zvD, zvU, ↓up_apply, ↓hv_apply, ↓upO_some, ↓upO_none, ↓ev_tmp, ↓ev_const, ↓ev_func, ↓ev_global, init, Nat.reduceEqDiff, Nat.reduceAdd, Nat.reduceMul, Nat.reduceSub, ↓reduceIte, Int.reduceEq, Int.reduceNe, Nat.reduceLeDiff, one, Value.cells, Int.reduceLE, Int.reduceLT, Int.reduceToNat, add_mk, reduceCtorEq, List.mem_range'_1, true_and, and_true, and_false, false_and, Nat.reduceLT, Nat.reduceLeDiff, tyF, hb12.cell, rin_bad w2]
    simp only [Bool.false_eq_true, false_or] at bad
    refine ⟨fun h => bad (.inl h), fun h0 => ⟨fun h => bad (.inr h), fun h1 => ?_⟩⟩
    have hmc : m.toNat ≤ c := by omega
    have hmn : m.toNat ≤ n := by omega
    refine draw_seen 10 [[], [0], [], [0, 1, 2], [], [4], [], [4, 5, 6], [4, 5, 6, 7], [0, 1, 2, 3], [0, 1, 2, 3, 4, 5, 6, 7, 8, 9]] (RV.look []) mixed (by kernel_rfl) (by kernel_rfl) (look_keeps _ (by simp)) ?_
    simp (config := {maxSteps := 1000000}) only [↓zvD, zvU, ↓zqD, ↓up_apply, ↓hv_apply, ↓upO_some, ↓upO_none, ↓ev_tmp, ↓ev_const, ↓ev_func, ↓ev_global, init, Nat.reduceEqDiff, Nat.reduceAdd, Nat.reduceMul, Nat.reduceSub, ↓reduceIte, Int.reduceEq, Int.reduceNe, Nat.reduceLeDiff, one, Value.cells, Int.reduceLE, Int.reduceLT, Int.reduceToNat, add_mk, reduceCtorEq, List.mem_range'_1, true_and, and_true, and_false, false_and, Nat.reduceLT, Nat.reduceLeDiff, tyF, hb12.cell, h0, hmc, hmn]
    rw [rin_build _ _ _ w2]
    simp (config := {maxSteps := 1000000}) only [↓zvD, zvU, ↓zqD, ↓up_apply, ↓hv_apply, ↓upO_some, ↓upO_none, ↓ev_tmp, ↓ev_const, ↓ev_func, ↓ev_global, init, Nat.reduceEqDiff, Nat.reduceAdd, Nat.reduceMul, Nat.reduceSub, ↓reduceIte, Int.reduceEq, Int.reduceNe, Nat.reduceLeDiff, one, Value.cells, Int.reduceLE, Int.reduceLT, Int.reduceToNat, add_mk, reduceCtorEq, List.mem_range'_1, true_and, and_true, and_false, false_and, Nat.reduceLT, Nat.reduceLeDiff, tyF, hb12.cell, h0, hmc, hmn]
    intro w3 hm3
    refine st_all (hb2.more hm3) rfl rfl (by intro u hu; simp at hu; rcases hu with rfl | rfl <;> rfl) fun w4 k1 k2 => ?_
    have hv := k2.all_eq 2 rfl
    simp (config := {maxSteps := 1000000}) only [↓zvD, zvU, ↓up_apply, ↓hv_apply, ↓upO_some, ↓upO_none, ↓ev_tmp, ↓ev_const, ↓ev_func, ↓ev_global, init, Nat.reduceEqDiff, Nat.reduceAdd, Nat.reduceMul, Nat.reduceSub, ↓reduceIte, Int.reduceEq, Int.reduceNe, Nat.reduceLeDiff, one, Value.cells, Int.reduceLE, Int.reduceLT, Int.reduceToNat, add_mk, reduceCtorEq, List.mem_range'_1, true_and, and_true, and_false, false_and, Nat.reduceLT, Nat.reduceLeDiff, tyF, p_nil, hv]
    rw [if_neg (by omega)]
    exact ⟨rfl, k1.below (hm.trans hm3) (by omega)⟩
theorem ref_take_bad (w : World) (A : Option Addr) (n c : Nat) (b : Bool) (m : Int) (hc : n ≤ c) (h : b = true ∨ m < 0 ∨ (n : Int) < m) :
    Ret Try.prog 30 #[rin A n c b, .int .i64 m] w fun v w' => v = .tuple #[.int .u64 0, rin none 0 0 true] ∧ More w w' := by
  refine ret_of Try.func30 rfl (by kernel_rfl) (Nat.le_of_ble_eq_true (by kernel_rfl)) ?_
  simp (config := {maxSteps := 1000000}) only [↓zvD, zvU, ↓up_apply, ↓hv_apply, ↓upO_some, ↓upO_none, ↓ev_tmp, ↓ev_const, ↓ev_func, ↓ev_global, init, Nat.reduceEqDiff, Nat.reduceAdd, Nat.reduceMul, Nat.reduceSub, ↓reduceIte, Int.reduceEq, Int.reduceNe, Nat.reduceLeDiff, one, Value.cells, Int.reduceLE, Int.reduceLT, Int.reduceToNat, add_mk, reduceCtorEq, List.mem_range'_1, true_and, and_true, and_false, false_and, Nat.reduceLT, Nat.reduceLeDiff, tyF, zer51]
  have hm1 := more_alloc w (.cells #[.slice A n c, .bool b] 51)
  have hb1 := Blk.new w 51 #[.slice A n c, .bool b]
  have s1 := size_alloc w (.cells #[.slice A n c, .bool b] 51)
  generalize w.alloc (.cells #[.slice A n c, .bool b] 51) = w1 at hm1 hb1 s1 ⊢
  have hm2 := more_alloc w1 (.cells #[.slice none 0 0, .bool false] 51)
  have hb2 := Blk.new w1 51 #[.slice none 0 0, .bool false]
  have s2 := size_alloc w1 (.cells #[.slice none 0 0, .bool false] 51)
  generalize w1.alloc (.cells #[.slice none 0 0, .bool false] 51) = w2 at hm2 hb2 s2 ⊢
  have hb12 := hb1.more hm2
  have hm := hm1.trans hm2
  have hv1 := hb12.all_eq 2 rfl
  simp (config := {maxSteps := 1000000}) only [↓zvD, zvU, ↓up_apply, ↓hv_apply, ↓upO_some, ↓upO_none, ↓ev_tmp, ↓ev_const, ↓ev_func, ↓ev_global, init, Nat.reduceEqDiff, Nat.reduceAdd, Nat.reduceMul, Nat.reduceSub, ↓reduceIte, Int.reduceEq, Int.reduceNe, Nat.reduceLeDiff, one, Value.cells, Int.reduceLE, Int.reduceLT, Int.reduceToNat, add_mk, reduceCtorEq, List.mem_range'_1, true_and, and_true, and_false, false_and, Nat.reduceLT, Nat.reduceLeDiff, tyF, hv1]
  refine call_ok Try.call34 (ref_raw w2 A n c b m hc) ?_
  rintro _ w3 ⟨rfl, hm3⟩
  rw [if_pos h]
  simp (config := {maxSteps := 1000000}) only [↓zvD, zvU, ↓up_apply, ↓hv_apply, ↓upO_some, ↓upO_none, ↓ev_tmp, ↓ev_const, ↓ev_func, ↓ev_global, init, Nat.reduceEqDiff, Nat.reduceAdd, Nat.reduceMul, Nat.reduceSub, ↓reduceIte, Int.reduceEq, Int.reduceNe, Nat.reduceLeDiff, one, Value.cells, Int.reduceLE, Int.reduceLT, Int.reduceToNat, add_mk, reduceCtorEq, List.mem_range'_1, true_and, and_true, and_false, false_and, Nat.reduceLT, Nat.reduceLeDiff, tyF, zer51]
  have hm4 := more_alloc w3 (.cells #[.slice none 0 0, .bool false] 51)
  have hb4 := Blk.new w3 51 #[.slice none 0 0, .bool false]
  have s4 := size_alloc w3 (.cells #[.slice none 0 0, .bool false] 51)
  generalize w3.alloc (.cells #[.slice none 0 0, .bool false] 51) = w4 at hm4 hb4 s4 ⊢
  have hb24 := hb2.more (hm3.trans hm4)
  have s3 := hm3.size
  refine st_all hb4 rfl rfl (by intro u hu; simp at hu; rcases hu with rfl | rfl <;> rfl) fun w5 k1 k2 => ?_
  have hb25 := k1.blk hb24 (by omega)
  have hm5 := k1.below ((hm.trans hm3).trans hm4) (by have := hm.size; omega)
  refine loop_p [8, 9, 18, 19, 20, 21, 22, 23, 24, 25, 26, 27, 28, 29] (fun e w' => e 18 = .int .i64 0 ∧ e 8 = .int .u64 0 ∧ w' = w5) (fun e _ => 0) ?_ ?_
  · exact ⟨by simp [hv_apply, up_apply, upO_some, upO_none, init, List.mem_cons, List.mem_range'_1, true_and, and_true, and_false, false_and, Nat.reduceLT, Nat.reduceLeDiff, Nat.reduceAdd, true_or, or_true, if_true, if_false, ↓reduceIte, Nat.reduceEqDiff, false_or, or_false, List.not_mem_nil, List.getElem?_cons_zero, List.getElem?_cons_succ, Option.getD_some], by simp [hv_apply, up_apply, upO_some, upO_none, init, List.mem_cons, List.mem_range'_1, true_and, and_true, and_false, false_and, Nat.reduceLT, Nat.reduceLeDiff, Nat.reduceAdd, true_or, or_true, if_true, if_false, ↓reduceIte, Nat.reduceEqDiff, false_or, or_false, List.not_mem_nil, List.getElem?_cons_zero, List.getElem?_cons_succ, Option.getD_some], rfl⟩
  · rintro v w6 ⟨g18, g8, rfl⟩
    simp only [hv_apply, up_apply, upO_some, upO_none, init, List.mem_cons, List.mem_range'_1, true_and, and_true, and_false, false_and, Nat.reduceLT, Nat.reduceLeDiff, Nat.reduceAdd, true_or, or_true, if_true, if_false, ↓reduceIte, Nat.reduceEqDiff, false_or, or_false, List.not_mem_nil, List.getElem?_cons_zero, List.getElem?_cons_succ, Option.getD_some] at g18 g8
    simp (config := {maxSteps := 1000000}) only [↓zvD, zvU, ↓up_apply, ↓hv_apply, ↓upO_some, ↓upO_none, ↓ev_tmp, ↓ev_const, ↓ev_func, ↓ev_global, init, Nat.reduceEqDiff, Nat.reduceAdd, Nat.reduceMul, Nat.reduceSub, ↓reduceIte, Int.reduceEq, Int.reduceNe, Nat.reduceLeDiff, one, Value.cells, Int.reduceLE, Int.reduceLT, Int.reduceToNat, add_mk, reduceCtorEq, List.mem_range'_1, true_and, and_true, and_false, false_and, Nat.reduceLT, Nat.reduceLeDiff, tyF, g18, g8, Int.lt_irrefl]
    have hv4 := k2.all_eq 2 rfl
    refine draw_seen 3 [[], [], [0], [0, 1, 2]] (RV.look []) mixed (by kernel_rfl) (by kernel_rfl) (look_keeps _ (by simp)) ?_
    simp (config := {maxSteps := 1000000}) only [↓zvD, zvU, ↓zqD, ↓up_apply, ↓hv_apply, ↓upO_some, ↓upO_none, ↓ev_tmp, ↓ev_const, ↓ev_func, ↓ev_global, init, Nat.reduceEqDiff, Nat.reduceAdd, Nat.reduceMul, Nat.reduceSub, ↓reduceIte, Int.reduceEq, Int.reduceNe, Nat.reduceLeDiff, one, Value.cells, Int.reduceLE, Int.reduceLT, Int.reduceToNat, add_mk, reduceCtorEq, List.mem_range'_1, true_and, and_true, and_false, false_and, Nat.reduceLT, Nat.reduceLeDiff, tyF, g18, g8, hv4]
    intro w7 hm7
    refine st_all (hb25.more hm7) rfl rfl (by intro u hu; simp at hu; rcases hu with rfl | rfl <;> rfl) fun w8 j1 j2 => ?_
    have hv8 := j2.all_eq 2 rfl
    simp (config := {maxSteps := 1000000}) only [↓zvD, zvU, ↓up_apply, ↓hv_apply, ↓upO_some, ↓upO_none, ↓ev_tmp, ↓ev_const, ↓ev_func, ↓ev_global, init, Nat.reduceEqDiff, Nat.reduceAdd, Nat.reduceMul, Nat.reduceSub, ↓reduceIte, Int.reduceEq, Int.reduceNe, Nat.reduceLeDiff, one, Value.cells, Int.reduceLE, Int.reduceLT, Int.reduceToNat, add_mk, reduceCtorEq, List.mem_range'_1, true_and, and_true, and_false, false_and, Nat.reduceLT, Nat.reduceLeDiff, tyF, p_nil, hv8]
    exact j1.below (More.trans hm5 hm7) (by have := hm1.size; omega)
theorem ref_take_ok (w : World) (A : Option Addr) (l : List UInt8) (c m : Nat) (hA : Bs w A l) (hc : l.length ≤ c) (hm8 : m ≤ 8) (hml : m ≤ l.length) :
    Ret Try.prog 30 #[rin A l.length c false, .int .i64 m] w fun v w' => v = .tuple #[.int .u64 (be (l.take m)), rin (adv A c m 1) (l.length - m) (c - m) false] ∧ More w w' := by
  refine ret_of Try.func30 rfl (by kernel_rfl) (Nat.le_of_ble_eq_true (by kernel_rfl)) ?_
  simp (config := {maxSteps := 1000000}) only [↓zvD, zvU, ↓up_apply, ↓hv_apply, ↓upO_some, ↓upO_none, ↓ev_tmp, ↓ev_const, ↓ev_func, ↓ev_global, init, Nat.reduceEqDiff, Nat.reduceAdd, Nat.reduceMul, Nat.reduceSub, ↓reduceIte, Int.reduceEq, Int.reduceNe, Nat.reduceLeDiff, one, Value.cells, Int.reduceLE, Int.reduceLT, Int.reduceToNat, add_mk, reduceCtorEq, List.mem_range'_1, true_and, and_true, and_false, false_and, Nat.reduceLT, Nat.reduceLeDiff, tyF, zer51]
  have hm1 := more_alloc w (.cells #[.slice A l.length c, .bool false] 51)
  have hb1 := Blk.new w 51 #[.slice A l.length c, .bool false]
  have s1 := size_alloc w (.cells #[.slice A l.length c, .bool false] 51)
  generalize w.alloc (.cells #[.slice A l.length c, .bool false] 51) = w1 at hm1 hb1 s1 ⊢
  have hm2 := more_alloc w1 (.cells #[.slice none 0 0, .bool false] 51)
  have hb2 := Blk.new w1 51 #[.slice none 0 0, .bool false]
  have s2 := size_alloc w1 (.cells #[.slice none 0 0, .bool false] 51)
  generalize w1.alloc (.cells #[.slice none 0 0, .bool false] 51) = w2 at hm2 hb2 s2 ⊢
  have hb12 := hb1.more hm2
  have hm := hm1.trans hm2
  have hv1 := hb12.all_eq 2 rfl
  simp (config := {maxSteps := 1000000}) only [↓zvD, zvU, ↓up_apply, ↓hv_apply, ↓upO_some, ↓upO_none, ↓ev_tmp, ↓ev_const, ↓ev_func, ↓ev_global, init, Nat.reduceEqDiff, Nat.reduceAdd, Nat.reduceMul, Nat.reduceSub, ↓reduceIte, Int.reduceEq, Int.reduceNe, Nat.reduceLeDiff, one, Value.cells, Int.reduceLE, Int.reduceLT, Int.reduceToNat, add_mk, reduceCtorEq, List.mem_range'_1, true_and, and_true, and_false, false_and, Nat.reduceLT, Nat.reduceLeDiff, tyF, hv1]
  refine call_ok Try.call34 (ref_raw w2 A l.length c false m hc) ?_
  rintro _ w3 ⟨rfl, hm3⟩
  rw [if_neg (by simp; omega), Int.toNat_natCast]
  simp (config := {maxSteps := 1000000}) only [↓zvD, zvU, ↓up_apply, ↓hv_apply, ↓upO_some, ↓upO_none, ↓ev_tmp, ↓ev_const, ↓ev_func, ↓ev_global, init, Nat.reduceEqDiff, Nat.reduceAdd, Nat.reduceMul, Nat.reduceSub, ↓reduceIte, Int.reduceEq, Int.reduceNe, Nat.reduceLeDiff, one, Value.cells, Int.reduceLE, Int.reduceLT, Int.reduceToNat, add_mk, reduceCtorEq, List.mem_range'_1, true_and, and_true, and_false, false_and, Nat.reduceLT, Nat.reduceLeDiff, tyF, zer51]
  generalize hX : rin (adv A c m 1) (l.length - m) (c - m) false = X
  have hm4 := more_alloc w3 (.cells #[.slice none 0 0, .bool false] 51)
  have hb4 := Blk.new w3 51 #[.slice none 0 0, .bool false]
  have s4 := size_alloc w3 (.cells #[.slice none 0 0, .bool false] 51)
  generalize w3.alloc (.cells #[.slice none 0 0, .bool false] 51) = w4 at hm4 hb4 s4 ⊢
  have hb24 := hb2.more (hm3.trans hm4)
  have s3 := hm3.size
  refine st_all hb4 rfl rfl (by intro u hu; simp at hu; rcases hu with rfl | rfl <;> rfl) fun w5 k1 k2 => ?_
  have hb25 := k1.blk hb24 (by omega)
  have hs := hm.size
  have hm5 := k1.below ((hm.trans hm3).trans hm4) (by omega)
  have hA5 : Bs w5 A (l.take m) := Cs.takeB (hA.more hm5) m
  have htl : (l.take m).length = m := by rw [List.length_take]; omega
  generalize l.take m = z at hA5 htl ⊢
  refine loop_p [8, 9, 18, 19, 20, 21, 22, 23, 24, 25, 26, 27, 28, 29] (fun e w' => ∃ k : Nat, e 18 = .int .i64 k ∧ k ≤ m ∧ e 8 = .int .u64 (be (z.take k)) ∧ w' = w5) (fun e _ => m - (numOf (e 18)).toNat) ?_ ?_
  · exact ⟨0, by simp [hv_apply, up_apply, upO_some, upO_none, init, List.mem_cons, List.mem_range'_1, true_and, and_true, and_false, false_and, Nat.reduceLT, Nat.reduceLeDiff, Nat.reduceAdd, true_or, or_true, if_true, if_false, ↓reduceIte, Nat.reduceEqDiff, false_or, or_false, List.not_mem_nil, List.getElem?_cons_zero, List.getElem?_cons_succ, Option.getD_some], by omega, by simp [hv_apply, up_apply, upO_some, upO_none, init, List.mem_cons, List.mem_range'_1, true_and, and_true, and_false, false_and, Nat.reduceLT, Nat.reduceLeDiff, Nat.reduceAdd, true_or, or_true, if_true, if_false, ↓reduceIte, Nat.reduceEqDiff, false_or, or_false, List.not_mem_nil, List.getElem?_cons_zero, List.getElem?_cons_succ, Option.getD_some, be], rfl⟩
  · rintro v w6 ⟨k, g18, hk, g8, rfl⟩
    simp only [hv_apply, up_apply, upO_some, upO_none, init, List.mem_cons, List.mem_range'_1, true_and, and_true, and_false, false_and, Nat.reduceLT, Nat.reduceLeDiff, Nat.reduceAdd, true_or, or_true, if_true, if_false, ↓reduceIte, Nat.reduceEqDiff, false_or, or_false, List.not_mem_nil, List.getElem?_cons_zero, List.getElem?_cons_succ, Option.getD_some] at g18 g8
    have g0 : (0 : Int) ≤ (k : Int) := by omega
    simp (config := {maxSteps := 1000000}) only [↓zvD, zvU, ↓up_apply, ↓hv_apply, ↓upO_some, ↓upO_none, ↓ev_tmp, ↓ev_const, ↓ev_func, ↓ev_global, init, Nat.reduceEqDiff, Nat.reduceAdd, Nat.reduceMul, Nat.reduceSub, ↓reduceIte, Int.reduceEq, Int.reduceNe, Nat.reduceLeDiff, one, Value.cells, Int.reduceLE, Int.reduceLT, Int.reduceToNat, add_mk, reduceCtorEq, List.mem_range'_1, true_and, and_true, and_false, false_and, Nat.reduceLT, Nat.reduceLeDiff, tyF, g18, g8]
    refine ⟨fun h9 => ?_, fun h9 => ?_⟩
    · have ek : IntKind.i64.wrap ((k : Int) + 1) = ((k + 1 : Nat) : Int) := w64 (by omega) (by omega)
      have hkz : k < z.length := by omega
      have hr := be_range (z.take k)
      have hr2 : be (z.take k) < (256 ^ 7 : Nat) := be_lt (by rw [List.length_take]; omega)
      have hb := bt_nonneg z k
      have hb' := bt_lt z k
      have e1 : IntKind.u64.wrap (be (z.take k) * 256) = be (z.take k) * 256 := wu64 (by omega) (by omega)
      have e2 : IntKind.u64.wrap (bt z k) = bt z k := wu64 hb (by omega)
      have e3 : IntKind.u64.wrap (be (z.take k) * 256 + bt z k) = be (z.take (k + 1)) := by rw [be_step hkz]; exact wu64 (by omega) (by omega)
      obtain ⟨a, rfl⟩ := hA5.isAt (by omega)
      have hc5 := hA5.cellN hkz
      simp (config := {maxSteps := 1000000}) only [↓zvD, zvU, ↓up_apply, ↓hv_apply, ↓upO_some, ↓upO_none, ↓ev_tmp, ↓ev_const, ↓ev_func, ↓ev_global, init, Nat.reduceEqDiff, Nat.reduceAdd, Nat.reduceMul, Nat.reduceSub, ↓reduceIte, Int.reduceEq, Int.reduceNe, Nat.reduceLeDiff, one, Value.cells, Int.reduceLE, Int.reduceLT, Int.reduceToNat, add_mk, reduceCtorEq, List.mem_range'_1, true_and, and_true, and_false, false_and, Nat.reduceLT, Nat.reduceLeDiff, tyF, g18, g8, g0, h9, hc5, Int.toNat_natCast, shl8u, e1, e2, e3, ek]
      refine ⟨⟨?_, k + 1, rfl, by omega, rfl⟩, by simp only [numOf]; omega⟩
      repeat (first | exact Same.hv _ _ _ | refine Same.up (by simp) ?_)
    · obtain rfl : k = m := by omega
      have hv4 := k2.all_eq 2 rfl
      rw [List.take_of_length_le (by omega)] at g8
      refine draw_seen 3 [[], [], [0], [0, 1, 2]] (RV.look []) mixed (by kernel_rfl) (by kernel_rfl) (look_keeps _ (by simp)) ?_
      simp (config := {maxSteps := 1000000}) only [↓zvD, zvU, ↓zqD, ↓up_apply, ↓hv_apply, ↓upO_some, ↓upO_none, ↓ev_tmp, ↓ev_const, ↓ev_func, ↓ev_global, init, Nat.reduceEqDiff, Nat.reduceAdd, Nat.reduceMul, Nat.reduceSub, ↓reduceIte, Int.reduceEq, Int.reduceNe, Nat.reduceLeDiff, one, Value.cells, Int.reduceLE, Int.reduceLT, Int.reduceToNat, add_mk, reduceCtorEq, List.mem_range'_1, true_and, and_true, and_false, false_and, Nat.reduceLT, Nat.reduceLeDiff, tyF, g18, g8, hv4]
      intro w7 hm7
      refine st_all (hb25.more hm7) rfl rfl (by intro u hu; simp at hu; rcases hu with rfl | rfl <;> rfl) fun w8 j1 j2 => ?_
      have hv8 := j2.all_eq 2 rfl
      simp (config := {maxSteps := 1000000}) only [↓zvD, zvU, ↓up_apply, ↓hv_apply, ↓upO_some, ↓upO_none, ↓ev_tmp, ↓ev_const, ↓ev_func, ↓ev_global, init, Nat.reduceEqDiff, Nat.reduceAdd, Nat.reduceMul, Nat.reduceSub, ↓reduceIte, Int.reduceEq, Int.reduceNe, Nat.reduceLeDiff, one, Value.cells, Int.reduceLE, Int.reduceLT, Int.reduceToNat, add_mk, reduceCtorEq, List.mem_range'_1, true_and, and_true, and_false, false_and, Nat.reduceLT, Nat.reduceLeDiff, tyF, p_nil, hv8]
      exact ⟨hX ▸ rfl, j1.below (More.trans hm5 hm7) (by have := hm1.size; omega)⟩
end Go.Proofs.Ytloiglnejffmkaa
