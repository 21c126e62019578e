/-
  Layer 8: the reference, what an idle program answers wrongly, EtherReads.
-/
import Derived.Test.YtloiglnejffmkaaEther
namespace Go.Proofs.Ytloiglnejffmkaa
open Go Go.RowKit Go.Proofs.RV
set_option linter.unusedSimpArgs false
set_option linter.unusedVariables false
set_option maxRecDepth 10000
set_option maxHeartbeats 2000000

/-- what is stored in a fresh variable -/
theorem link_var {w : World} {b : Bool} {x : Int} {K : World → Prop} (hK : ∀ w', More w w' → Blk w' w.heap.size 35 [.bool b, .int .i64 x] → w'.heap.size = w.heap.size + 1 → K w') :
    stRow 2 #[.bool b, .int .i64 x] ⟨w.heap.size, 0, none⟩ (w.alloc (.cells #[.bool false, .int .i64 0] 35)) K := by
  have hm := more_alloc w (.cells #[.bool false, .int .i64 0] 35)
  have hb := Blk.new w 35 #[.bool false, .int .i64 0]
  refine st_all hb rfl rfl (by intro u hu; simp at hu; rcases hu with rfl | rfl <;> rfl) fun w' h1 h2 => hK w' (h1.below hm (Nat.le_refl _)) h2 ?_
  rw [h1.size, size_alloc]
theorem law08_awake (w : World) : Ret Try.prog 22 #[] w fun v w' => v = .bool true ∧ More w w' := by
  refine ret_of Try.func22 rfl (by kernel_rfl) (Nat.le_of_ble_eq_true (by kernel_rfl)) ?_
  simp (config := {maxSteps := 1000000}) only [↓zvD, zvU, ↓up_apply, ↓hv_apply, ↓upO_some, ↓upO_none, ↓ev_tmp, ↓ev_const, ↓ev_func, ↓ev_global, init, Nat.reduceEqDiff, Nat.reduceAdd, Nat.reduceMul, Nat.reduceSub, ↓reduceIte, Int.reduceEq, Int.reduceNe, Nat.reduceLeDiff, one, Value.cells, Int.reduceLE, Int.reduceLT, Int.reduceToNat, add_mk, reduceCtorEq, List.mem_range'_1, true_and, and_true, and_false, false_and, Nat.reduceLT, Nat.reduceLeDiff, tyF]
  refine bslice (z := .int .u8 0) (cells := (([0, 0, 0, 0, 0, 0, 0, 0, 0, 0, 0, 0, 8, 0] : List UInt8).map byteV).toArray) Try.underlying22 byteE (by omega) (by have := bcells_list (z := .int .u8 0) (([0, 0, 0, 0, 0, 0, 0, 0, 0, 0, 0, 0, 8, 0] : List UInt8).map byteV) (by intro v hv; obtain ⟨b, _, rfl⟩ := List.mem_map.1 hv; rfl); exact this) ?_
  have hm1 := more_alloc w (.cells (([0, 0, 0, 0, 0, 0, 0, 0, 0, 0, 0, 0, 8, 0] : List UInt8).map byteV).toArray 5)
  have hb1 := Blk.new w 5 (([0, 0, 0, 0, 0, 0, 0, 0, 0, 0, 0, 0, 8, 0] : List UInt8).map byteV).toArray
  generalize w.alloc (.cells (([0, 0, 0, 0, 0, 0, 0, 0, 0, 0, 0, 0, 8, 0] : List UInt8).map byteV).toArray 5) = w1 at hm1 hb1 ⊢
  simp (config := {maxSteps := 1000000}) only [↓zvD, zvU, ↓up_apply, ↓hv_apply, ↓upO_some, ↓upO_none, ↓ev_tmp, ↓ev_const, ↓ev_func, ↓ev_global, init, Nat.reduceEqDiff, Nat.reduceAdd, Nat.reduceMul, Nat.reduceSub, ↓reduceIte, Int.reduceEq, Int.reduceNe, Nat.reduceLeDiff, one, Value.cells, Int.reduceLE, Int.reduceLT, Int.reduceToNat, add_mk, reduceCtorEq, List.mem_range'_1, true_and, and_true, and_false, false_and, Nat.reduceLT, Nat.reduceLeDiff, tyF]
  refine call_ok Try.call23 (ether_parse w1 _ [0, 0, 0, 0, 0, 0, 0, 0, 0, 0, 0, 0, 8, 0] 14 hb1.cs (by decide)) ?_
  rintro _ w2 ⟨rfl, hm2⟩
  have e2 : etherM [0, 0, 0, 0, 0, 0, 0, 0, 0, 0, 0, 0, 8, 0] = (false, 14, 0) := by decide
  rw [e2]
  simp (config := {maxSteps := 1000000}) only [↓zvD, zvU, ↓up_apply, ↓hv_apply, ↓upO_some, ↓upO_none, ↓ev_tmp, ↓ev_const, ↓ev_func, ↓ev_global, init, Nat.reduceEqDiff, Nat.reduceAdd, Nat.reduceMul, Nat.reduceSub, ↓reduceIte, Int.reduceEq, Int.reduceNe, Nat.reduceLeDiff, one, Value.cells, Int.reduceLE, Int.reduceLT, Int.reduceToNat, add_mk, reduceCtorEq, List.mem_range'_1, true_and, and_true, and_false, false_and, Nat.reduceLT, Nat.reduceLeDiff, tyF, zerLink]
  refine link_var fun w3 hm3 hb3 _ => ?_
  refine call_ok Try.call23 (ether_parse w3 none [] 0 (Cs.nil _ _) (by decide)) ?_
  rintro _ w4 ⟨rfl, hm4⟩
  have e4 : etherM [] = (false, 0, 1) := by decide
  rw [e4]
  simp (config := {maxSteps := 1000000}) only [↓zvD, zvU, ↓up_apply, ↓hv_apply, ↓upO_some, ↓upO_none, ↓ev_tmp, ↓ev_const, ↓ev_func, ↓ev_global, init, Nat.reduceEqDiff, Nat.reduceAdd, Nat.reduceMul, Nat.reduceSub, ↓reduceIte, Int.reduceEq, Int.reduceNe, Nat.reduceLeDiff, one, Value.cells, Int.reduceLE, Int.reduceLT, Int.reduceToNat, add_mk, reduceCtorEq, List.mem_range'_1, true_and, and_true, and_false, false_and, Nat.reduceLT, Nat.reduceLeDiff, tyF, zerLink]
  refine link_var fun w5 hm5 hb5 _ => ?_
  have hb3' := (hb3.more hm4).more hm5
  simp (config := {maxSteps := 1000000}) only [↓zvD, zvU, ↓up_apply, ↓hv_apply, ↓upO_some, ↓upO_none, ↓ev_tmp, ↓ev_const, ↓ev_func, ↓ev_global, init, Nat.reduceEqDiff, Nat.reduceAdd, Nat.reduceMul, Nat.reduceSub, ↓reduceIte, Int.reduceEq, Int.reduceNe, Nat.reduceLeDiff, one, Value.cells, Int.reduceLE, Int.reduceLT, Int.reduceToNat, add_mk, reduceCtorEq, List.mem_range'_1, true_and, and_true, and_false, false_and, Nat.reduceLT, Nat.reduceLeDiff, tyF, hb3'.cell]
  exact (((hm1.trans hm2).trans hm3).trans hm4).trans hm5
theorem link_g : Try.prog.eqGuardType Try.prog.depth 35 = false := by kernel_rfl
theorem link_tv (b : Bool) (x : Int) : tv Try.prog 35 [.bool b, .int .i64 x] = .agg [.bool b, .int .i64 x].toArray := by unfold tv; rw [Try.underlying35]
theorem link_eq (b b' : Bool) (x x' : Int) (w0 : World) (ox oy : Operand) (K : Value → Prop) :
    pureP Try.prog (do eqGuard .eql 35 ox oy (.agg #[.bool b, .int .i64 x]) (.agg #[.bool b', .int .i64 x']); binOp .eql 35 (.agg #[.bool b, .int .i64 x]) (.agg #[.bool b', .int .i64 x'])) K = K (.bool (b == b' && decide (x = x'))) := by
  have := eql_flat (xs := [.bool b, .int .i64 x]) (ys := [.bool b', .int .i64 x']) link_g ⟨link_tv b x, link_tv b' x'⟩ (link_flat b x) (link_flat b' x') (by omega) w0 ox oy K
  rw [this]
  congr 2
  cases b <;> cases b' <;> simp
theorem link_ne (b b' : Bool) (x x' : Int) (w0 : World) (ox oy : Operand) (K : Value → Prop) :
    pureP Try.prog (do eqGuard .neq 35 ox oy (.agg #[.bool b, .int .i64 x]) (.agg #[.bool b', .int .i64 x']); binOp .neq 35 (.agg #[.bool b, .int .i64 x]) (.agg #[.bool b', .int .i64 x'])) K = K (.bool (!(b == b' && decide (x = x')))) := by
  have := neq_flat (xs := [.bool b, .int .i64 x]) (ys := [.bool b', .int .i64 x']) link_g ⟨link_tv b x, link_tv b' x'⟩ (link_flat b x) (link_flat b' x') (by omega) w0 ox oy K
  rw [this]
  congr 2
  cases b <;> cases b' <;> simp
end Go.Proofs.Ytloiglnejffmkaa
