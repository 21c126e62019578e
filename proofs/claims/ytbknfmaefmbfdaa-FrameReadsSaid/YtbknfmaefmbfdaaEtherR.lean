/-
  Layer 8: the reference, what an idle program answers wrongly, EtherReads.
-/
import Derived.Test.YtbknfmaefmbfdaaEther
namespace Go.Proofs.Ytbknfmaefmbfdaa
open Go Go.RowKit Go.Proofs.RV
set_option linter.unusedSimpArgs false
set_option linter.unusedVariables false
set_option maxRecDepth 10000
set_option maxHeartbeats 2000000

theorem ref08_two (w : World) (A : Option Addr) (l : List UInt8) (c : Nat) (i : Nat) (hA : Bs w A l) (hl : l.length ≤ 1000000) (h : i + 1 < l.length) :
    Ret Try.prog 87 #[.slice A l.length c, .int .i64 i] w fun v w' => v = .int .i64 (two l i) ∧ More w w' := by
  refine ret_of Try.func87 rfl (by kernel_rfl) (Nat.le_of_ble_eq_true (by kernel_rfl)) ?_
  obtain ⟨a, rfl⟩ := hA.isAt (by omega)
  have c0 := hA.cellN (i := i) (by omega)
  have c1 := hA.cellN (i := i + 1) (by omega)
  have hab := hA.blk_lt (by omega)
  have g0 : (i : Int) < l.length := by omega
  have g1 : ((i + 1 : Nat) : Int) < l.length := by omega
  have g2 : (0 : Int) ≤ i := by omega
  have g3 : (0 : Int) ≤ ((i + 1 : Nat) : Int) := by omega
  have e1 : IntKind.i64.wrap ((i : Int) + 1) = ((i + 1 : Nat) : Int) := w64 (by omega) (by omega)
  have e2 : IntKind.i64.wrap (IntKind.i64.wrap (IntKind.i64.wrap (bt l i) * 256) + IntKind.i64.wrap (bt l (i + 1))) = two l i := by
    have := bt_nonneg l i; have := bt_lt l i; have := bt_nonneg l (i + 1); have := bt_lt l (i + 1)
    rw [w64_byte, w64_byte, w64 (x := bt l i * 256) (by omega) (by omega), w64 (by omega) (by omega)]
    rfl
  generalize bt l i = x0 at c0 e2
  generalize bt l (i + 1) = x1 at c1 e2
  simp (config := {maxSteps := 1000000}) only [↓zvD, zvU, ↓up_apply, ↓hv_apply, ↓upO_some, ↓upO_none, ↓ev_tmp, ↓ev_const, ↓ev_func, ↓ev_global, init, Nat.reduceEqDiff, Nat.reduceAdd, Nat.reduceMul, Nat.reduceSub, ↓reduceIte, Int.reduceEq, Int.reduceNe, Nat.reduceLeDiff, one, Value.cells, Int.reduceLE, Int.reduceLT, Int.reduceToNat, add_mk, reduceCtorEq, tyF]
  refine draw_calm mixed (by kernel_rfl) ?_
  simp (config := {maxSteps := 1000000}) only [↓zvD, zvU, ↓zqD, ↓up_apply, ↓hv_apply, ↓upO_some, ↓upO_none, ↓ev_tmp, ↓ev_const, ↓ev_func, ↓ev_global, init, Nat.reduceEqDiff, Nat.reduceAdd, Nat.reduceMul, Nat.reduceSub, ↓reduceIte, Int.reduceEq, Int.reduceNe, Nat.reduceLeDiff, one, Value.cells, Int.reduceLE, Int.reduceLT, Int.reduceToNat, add_mk, reduceCtorEq, tyF, c0, c1, g0, g1, g2, g3, hab, add_block, e1, e2, Int.toNat_natCast]
  intro w2 hm2
  exact hm2
def Eth2J (l : List UInt8) (w : World) (v5 v6 : Value) (w' : World) : Prop :=
  ∃ n : Nat, v5 = .int .i64 ((12 + 4 * n : Nat) : Int) ∧ v6 = .int .i64 n ∧ n ≤ 2 ∧ ethGo l (2 - n) (12 + 4 * n) = etherM l ∧ More w w'
def Eth2R (l : List UInt8) (w : World) (v : Value) (w' : World) : Prop := v = .tuple #[.bool (etherM l).1, .int .i64 (etherM l).2.1, .int .i64 (etherM l).2.2] ∧ More w w'
theorem ref_ether (w : World) (A : Option Addr) (l : List UInt8) (c : Nat) (hA : Bs w A l) (hl : l.length ≤ 1000000) :
    Ret Try.prog 65 #[.slice A l.length c] w (Eth2R l w) := by
  refine ret_of Try.func65 rfl (by kernel_rfl) (Nat.le_of_ble_eq_true (by kernel_rfl)) ?_
  have out : ∀ w9 x, More w w9 → etherM l = x → Eth2R l w (.tuple #[.bool x.1, .int .i64 x.2.1, .int .i64 x.2.2]) w9 := by
    intro w9 x hm hx
    subst hx
    exact ⟨rfl, hm⟩
  simp (config := {maxSteps := 1000000}) only [↓zvD, zvU, ↓up_apply, ↓hv_apply, ↓upO_some, ↓upO_none, ↓ev_tmp, ↓ev_const, ↓ev_func, ↓ev_global, init, Nat.reduceEqDiff, Nat.reduceAdd, Nat.reduceMul, Nat.reduceSub, ↓reduceIte, Int.reduceEq, Int.reduceNe, Nat.reduceLeDiff, one, Value.cells, Int.reduceLE, Int.reduceLT, Int.reduceToNat, add_mk, reduceCtorEq, tyF]
  refine loop_p [5, 6, 2, 3, 4, 7, 8, 9, 10, 11, 12, 13, 14, 15, 16, 17, 18, 19, 20, 21, 22, 23, 24, 25, 26, 27, 28, 29, 30, 31, 32, 33, 34, 35, 36, 37] (fun e w' => Eth2J l w (e 5) (e 6) w') (fun e _ => 3 - (numOf (e 6)).toNat) ?_ ?_
  · exact ⟨0, by simp only [hv_apply, up_apply, upO_some, upO_none, init, List.mem_cons, true_or, or_true, if_true, if_false, ↓reduceIte, Nat.reduceEqDiff, false_or, or_false, List.not_mem_nil, List.getElem?_cons_zero, List.getElem?_cons_succ, Option.getD_some]; rfl, by simp only [hv_apply, up_apply, upO_some, upO_none, init, List.mem_cons, true_or, or_true, if_true, if_false, ↓reduceIte, Nat.reduceEqDiff, false_or, or_false, List.not_mem_nil, List.getElem?_cons_zero, List.getElem?_cons_succ, Option.getD_some]; rfl, by omega, rfl, More.refl w⟩
  rintro v w1 ⟨n, h5, h6, hn, hgo, hm1⟩
  simp only [hv_apply, up_apply, upO_some, upO_none, init, List.mem_cons, true_or, or_true, if_true, if_false, ↓reduceIte, Nat.reduceEqDiff, false_or, or_false, List.not_mem_nil, List.getElem?_cons_zero, List.getElem?_cons_succ, Option.getD_some] at h5 h6
  have e1 : IntKind.i64.wrap (((12 + 4 * n : Nat) : Int) + 2) = ((12 + 4 * n + 2 : Nat) : Int) := w64 (by omega) (by omega)
  have e2 : IntKind.i64.wrap (((12 + 4 * n : Nat) : Int) + 4) = ((12 + 4 * (n + 1) : Nat) : Int) := w64 (by omega) (by omega)
  have e3 : IntKind.i64.wrap ((n : Int) + 1) = ((n + 1 : Nat) : Int) := w64 (by omega) (by omega)
  simp (config := {maxSteps := 1000000}) only [↓zvD, zvU, ↓up_apply, ↓hv_apply, ↓upO_some, ↓upO_none, ↓ev_tmp, ↓ev_const, ↓ev_func, ↓ev_global, init, Nat.reduceEqDiff, Nat.reduceAdd, Nat.reduceMul, Nat.reduceSub, ↓reduceIte, Int.reduceEq, Int.reduceNe, Nat.reduceLeDiff, one, Value.cells, Int.reduceLE, Int.reduceLT, Int.reduceToNat, add_mk, reduceCtorEq, tyF, h5, h6, e1]
  refine ⟨fun h1 => out _ (false, 0, 1) hm1 (by rw [← hgo]; exact ethGo_short (by omega)), fun h1 => ?_⟩
  have h14 : 12 + 4 * n + 2 ≤ l.length := by omega
  refine call_ok Try.call87 (ref08_two w1 A l c (12 + 4 * n) (hA.more hm1) hl (by omega)) ?_
  rintro _ w2 ⟨rfl, hm2⟩
  have hm12 := hm1.trans hm2
  have ht : two l (12 + 4 * n) = two l (12 + 4 * n) := rfl
  have hgt := fun h => ethGo_tag (r := 2 - n) h14 h
  have hge := fun h => ethGo_end (r := 2 - n) h14 h
  rw [hgo] at hgt hge
  generalize two l (12 + 4 * n) = t at hgt hge ⊢
  have hcut : (t = 33024 ∨ t = 34984) ∨ (¬ t = 33024 ∧ ¬ t = 34984) := by omega
  rcases hcut with htag | ⟨hn1, hn2⟩
  · have hgo2 := hgt (by unfold isTag; rcases htag with rfl | rfl <;> rfl)
    rcases Nat.lt_or_ge n 2 with hlt | hge2
    · have hne : ¬ (n : Int) = 2 := by omega
      have hgo3 : ethGo l (2 - (n + 1)) (12 + 4 * (n + 1)) = etherM l := by
        rw [hgo2, show 2 - n = (2 - (n + 1)) + 1 by omega]
        rfl
      rcases htag with rfl | rfl
      · simp (config := {maxSteps := 1000000}) only [↓zvD, zvU, ↓up_apply, ↓hv_apply, ↓upO_some, ↓upO_none, ↓ev_tmp, ↓ev_const, ↓ev_func, ↓ev_global, init, Nat.reduceEqDiff, Nat.reduceAdd, Nat.reduceMul, Nat.reduceSub, ↓reduceIte, Int.reduceEq, Int.reduceNe, Nat.reduceLeDiff, one, Value.cells, Int.reduceLE, Int.reduceLT, Int.reduceToNat, add_mk, reduceCtorEq, tyF, h5, h6, hne, e2, e3]
        refine ⟨⟨?_, n + 1, rfl, rfl, by omega, hgo3, hm12⟩, by simp only [numOf]; omega⟩
        repeat (first | exact Same.hv _ _ _ | refine Same.up (by simp) ?_)
      · simp (config := {maxSteps := 1000000}) only [↓zvD, zvU, ↓up_apply, ↓hv_apply, ↓upO_some, ↓upO_none, ↓ev_tmp, ↓ev_const, ↓ev_func, ↓ev_global, init, Nat.reduceEqDiff, Nat.reduceAdd, Nat.reduceMul, Nat.reduceSub, ↓reduceIte, Int.reduceEq, Int.reduceNe, Nat.reduceLeDiff, one, Value.cells, Int.reduceLE, Int.reduceLT, Int.reduceToNat, add_mk, reduceCtorEq, tyF, h5, h6, hne, e2, e3]
        refine ⟨⟨?_, n + 1, rfl, rfl, by omega, hgo3, hm12⟩, by simp only [numOf]; omega⟩
        repeat (first | exact Same.hv _ _ _ | refine Same.up (by simp) ?_)
    · obtain rfl : n = 2 := by omega
      have h6m : etherM l = (false, 0, 6) := hgo2
      rcases htag with rfl | rfl
      · simp (config := {maxSteps := 1000000}) only [↓zvD, zvU, ↓up_apply, ↓hv_apply, ↓upO_some, ↓upO_none, ↓ev_tmp, ↓ev_const, ↓ev_func, ↓ev_global, init, Nat.reduceEqDiff, Nat.reduceAdd, Nat.reduceMul, Nat.reduceSub, ↓reduceIte, Int.reduceEq, Int.reduceNe, Nat.reduceLeDiff, one, Value.cells, Int.reduceLE, Int.reduceLT, Int.reduceToNat, add_mk, reduceCtorEq, tyF, h5, h6]
        exact out _ _ hm12 h6m
      · simp (config := {maxSteps := 1000000}) only [↓zvD, zvU, ↓up_apply, ↓hv_apply, ↓upO_some, ↓upO_none, ↓ev_tmp, ↓ev_const, ↓ev_func, ↓ev_global, init, Nat.reduceEqDiff, Nat.reduceAdd, Nat.reduceMul, Nat.reduceSub, ↓reduceIte, Int.reduceEq, Int.reduceNe, Nat.reduceLeDiff, one, Value.cells, Int.reduceLE, Int.reduceLT, Int.reduceToNat, add_mk, reduceCtorEq, tyF, h5, h6]
        exact out _ _ hm12 h6m
  · have hgo2 := hge (by simp [isTag, hn1, hn2])
    by_cases hip : t = 2048 ∨ t = 34525
    · rw [if_neg (by omega)] at hgo2
      rcases hip with rfl | rfl
      · simp (config := {maxSteps := 1000000}) only [↓zvD, zvU, ↓up_apply, ↓hv_apply, ↓upO_some, ↓upO_none, ↓ev_tmp, ↓ev_const, ↓ev_func, ↓ev_global, init, Nat.reduceEqDiff, Nat.reduceAdd, Nat.reduceMul, Nat.reduceSub, ↓reduceIte, Int.reduceEq, Int.reduceNe, Nat.reduceLeDiff, one, Value.cells, Int.reduceLE, Int.reduceLT, Int.reduceToNat, add_mk, reduceCtorEq, tyF, h5, h6, e1]
        exact out _ _ hm12 hgo2
      · simp (config := {maxSteps := 1000000}) only [↓zvD, zvU, ↓up_apply, ↓hv_apply, ↓upO_some, ↓upO_none, ↓ev_tmp, ↓ev_const, ↓ev_func, ↓ev_global, init, Nat.reduceEqDiff, Nat.reduceAdd, Nat.reduceMul, Nat.reduceSub, ↓reduceIte, Int.reduceEq, Int.reduceNe, Nat.reduceLeDiff, one, Value.cells, Int.reduceLE, Int.reduceLT, Int.reduceToNat, add_mk, reduceCtorEq, tyF, h5, h6, e1]
        exact out _ _ hm12 hgo2
    · have hi1 : ¬ t = 2048 := fun h => hip (.inl h)
      have hi2 : ¬ t = 34525 := fun h => hip (.inr h)
      rw [if_pos ⟨hi1, hi2⟩] at hgo2
      simp (config := {maxSteps := 1000000}) only [↓zvD, zvU, ↓up_apply, ↓hv_apply, ↓upO_some, ↓upO_none, ↓ev_tmp, ↓ev_const, ↓ev_func, ↓ev_global, init, Nat.reduceEqDiff, Nat.reduceAdd, Nat.reduceMul, Nat.reduceSub, ↓reduceIte, Int.reduceEq, Int.reduceNe, Nat.reduceLeDiff, one, Value.cells, Int.reduceLE, Int.reduceLT, Int.reduceToNat, add_mk, reduceCtorEq, tyF, h5, h6, hn1, hn2, hi1, hi2]
      exact out _ _ hm12 hgo2
/-- what is stored in a fresh variable -/
theorem link_var {w : World} {b : Bool} {x : Int} {K : World → Prop} (hK : ∀ w', More w w' → Blk w' w.heap.size 110 [.bool b, .int .i64 x] → w'.heap.size = w.heap.size + 1 → K w') :
    stRow 2 #[.bool b, .int .i64 x] ⟨w.heap.size, 0, none⟩ (w.alloc (.cells #[.bool false, .int .i64 0] 110)) K := by
  have hm := more_alloc w (.cells #[.bool false, .int .i64 0] 110)
  have hb := Blk.new w 110 #[.bool false, .int .i64 0]
  refine st_all hb rfl rfl (by intro u hu; simp at hu; rcases hu with rfl | rfl <;> rfl) fun w' h1 h2 => hK w' (h1.below hm (Nat.le_refl _)) h2 ?_
  rw [h1.size, size_alloc]
theorem link_g : Try.prog.eqGuardType Try.prog.depth 110 = false := by kernel_rfl
theorem link_tv (b : Bool) (x : Int) : tv Try.prog 110 [.bool b, .int .i64 x] = .agg [.bool b, .int .i64 x].toArray := by unfold tv; rw [Try.underlying110]
theorem link_eq (b b' : Bool) (x x' : Int) (w0 : World) (ox oy : Operand) (K : Value → Prop) :
    pureP Try.prog (do eqGuard .eql 110 ox oy (.agg #[.bool b, .int .i64 x]) (.agg #[.bool b', .int .i64 x']); binOp .eql 110 (.agg #[.bool b, .int .i64 x]) (.agg #[.bool b', .int .i64 x'])) K = K (.bool (b == b' && decide (x = x'))) := by
  have := eql_flat (xs := [.bool b, .int .i64 x]) (ys := [.bool b', .int .i64 x']) link_g ⟨link_tv b x, link_tv b' x'⟩ (link_flat b x) (link_flat b' x') (by omega) w0 ox oy K
  rw [this]
  congr 2
  cases b <;> cases b' <;> simp
theorem link_ne (b b' : Bool) (x x' : Int) (w0 : World) (ox oy : Operand) (K : Value → Prop) :
    pureP Try.prog (do eqGuard .neq 110 ox oy (.agg #[.bool b, .int .i64 x]) (.agg #[.bool b', .int .i64 x']); binOp .neq 110 (.agg #[.bool b, .int .i64 x]) (.agg #[.bool b', .int .i64 x'])) K = K (.bool (!(b == b' && decide (x = x')))) := by
  have := neq_flat (xs := [.bool b, .int .i64 x]) (ys := [.bool b', .int .i64 x']) link_g ⟨link_tv b x, link_tv b' x'⟩ (link_flat b x) (link_flat b' x') (by omega) w0 ox oy K
  rw [this]
  congr 2
  cases b <;> cases b' <;> simp
end Go.Proofs.Ytbknfmaefmbfdaa
