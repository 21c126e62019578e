/-
  Layer 29: StatsOrder, StatsNil.
-/
import Derived.Test.YtgbhgjghlnknjaaLaw29
import Derived.Test.YtgbhgjghlnknjaaRefC
namespace Go.Proofs.Ytgbhgjghlnknjaa
open Go Go.RowKit Go.Proofs.RV
set_option linter.unusedSimpArgs false
set_option linter.unusedVariables false
set_option maxRecDepth 10000
set_option maxHeartbeats 4000000

theorem stat_flat {s : List Int} (h : s.length = 31) : Flat Try.prog 3 65 (ints s) :=
  flat_struct Try.underlying65 (by kernel_rfl)
    ⟨by decide, rfl, ints (s.take 15), ints (s.drop 15), by simp only [ints, ← List.map_append, List.take_append_drop], by rw [ints_len, List.length_take, h, cells62]; rfl, flat_ints Try.underlying62 Try.underlying2 cells2 (by rw [List.length_take, h]; rfl),
     by decide, by rw [ints_len, List.length_take, h]; rfl, ints (s.drop 15), [], by simp, by rw [ints_len, List.length_drop, h, cells63], flat_ints Try.underlying63 Try.underlying2 cells2 (by rw [List.length_drop, h]), rfl⟩
theorem stat_g : Try.prog.eqGuardType Try.prog.depth 65 = false := by kernel_rfl
theorem stat_tv (cs : List Value) : tv Try.prog 65 cs = .agg cs.toArray := by unfold tv; rw [Try.underlying65]
theorem ints_inj {a b : List Int} : ints a = ints b ↔ a = b := by
  constructor
  · intro h
    exact (List.map_inj_right (fun x y hxy => by injection hxy)).1 h
  · rintro rfl; rfl
open Classical in
theorem stat_eq {a b : List Int} (ha : a.length = 31) (hb : b.length = 31) (w0 : World) (ox oy : Operand) (K : Value → Prop) :
    pureP Try.prog (do eqGuard .eql 65 ox oy (.agg (ints a).toArray) (.agg (ints b).toArray); binOp .eql 65 (.agg (ints a).toArray) (.agg (ints b).toArray)) K = K (.bool (decide (a = b))) := by
  rw [eql_flat (n := 3) stat_g ⟨stat_tv _, stat_tv _⟩ (stat_flat ha) (stat_flat hb) (by omega) w0 ox oy K]
  simp only [ints_inj]
theorem stats_order (w : World) (A : Option Addr) (l : List AddedM) (c : Nat) (x : Int) (hA : Cs w A (l.flatMap AddedM.cells)) (hc : l.length ≤ c) (hx : 0 ≤ x ∧ x < 256) :
    Ret Try.prog 13 #[.slice A l.length c, .int .u8 x] w fun v w' => v = .bool true ∧ More w w' := by
  refine ret_of Try.func13 rfl (by kernel_rfl) (Nat.le_of_ble_eq_true (by kernel_rfl)) ?_
  simp (config := {maxSteps := 1000000}) only [↓zvD, zvU, ↓up_apply, ↓hv_apply, ↓upO_some, ↓upO_none, ↓ev_tmp, ↓ev_const, ↓ev_func, ↓ev_global, init, Nat.reduceEqDiff, Nat.reduceAdd, Nat.reduceMul, Nat.reduceSub, ↓reduceIte, Int.reduceEq, Int.reduceNe, Nat.reduceLeDiff, one, Value.cells, Int.reduceLE, Int.reduceLT, Int.reduceToNat, add_mk, reduceCtorEq, List.mem_range'_1, true_and, and_true, and_false, false_and, Nat.reduceLT, Nat.reduceLeDiff, tyF]
  refine call_ok Try.call33 (law29_awake w) ?_
  rintro _ w1 ⟨rfl, hm1⟩
  simp (config := {maxSteps := 1000000}) only [↓zvD, zvU, ↓up_apply, ↓hv_apply, ↓upO_some, ↓upO_none, ↓ev_tmp, ↓ev_const, ↓ev_func, ↓ev_global, init, Nat.reduceEqDiff, Nat.reduceAdd, Nat.reduceMul, Nat.reduceSub, ↓reduceIte, Int.reduceEq, Int.reduceNe, Nat.reduceLeDiff, one, Value.cells, Int.reduceLE, Int.reduceLT, Int.reduceToNat, add_mk, reduceCtorEq, List.mem_range'_1, true_and, and_true, and_false, false_and, Nat.reduceLT, Nat.reduceLeDiff, tyF]
  refine ⟨fun h60 => ?_, fun h60 => ?_⟩
  · refine call_ok Try.call33 (law29_awake w1) ?_
    rintro _ w2 ⟨rfl, hm2⟩
    simp (config := {maxSteps := 1000000}) only [↓zvD, zvU, ↓up_apply, ↓hv_apply, ↓upO_some, ↓upO_none, ↓ev_tmp, ↓ev_const, ↓ev_func, ↓ev_global, init, Nat.reduceEqDiff, Nat.reduceAdd, Nat.reduceMul, Nat.reduceSub, ↓reduceIte, Int.reduceEq, Int.reduceNe, Nat.reduceLeDiff, one, Value.cells, Int.reduceLE, Int.reduceLT, Int.reduceToNat, add_mk, reduceCtorEq, List.mem_range'_1, true_and, and_true, and_false, false_and, Nat.reduceLT, Nat.reduceLeDiff, tyF]
    exact hm1.trans hm2
  have e1 : IntKind.i64.wrap x = x := w64 (by omega) (by omega)
  have e2 : IntKind.i64.wrap ((l.length : Int) + 1) = (l.length : Int) + 1 := w64 (by omega) (by omega)
  have g1 : ¬ ((l.length : Int) + 1 = 0) := by omega
  obtain ⟨n, hn, hn1⟩ : ∃ n : Nat, x.tmod ((l.length : Int) + 1) = n ∧ n ≤ l.length := by
    rw [Int.tmod_eq_emod_of_nonneg hx.1]
    have h1 := Int.emod_nonneg x g1
    have h2 := Int.emod_lt_of_pos x (show 0 < (l.length : Int) + 1 by omega)
    exact ⟨(x % ((l.length : Int) + 1)).toNat, by omega, by omega⟩
  simp (config := {maxSteps := 1000000}) only [↓zvD, zvU, ↓up_apply, ↓hv_apply, ↓upO_some, ↓upO_none, ↓ev_tmp, ↓ev_const, ↓ev_func, ↓ev_global, init, Nat.reduceEqDiff, Nat.reduceAdd, Nat.reduceMul, Nat.reduceSub, ↓reduceIte, Int.reduceEq, Int.reduceNe, Nat.reduceLeDiff, one, Value.cells, Int.reduceLE, Int.reduceLT, Int.reduceToNat, add_mk, reduceCtorEq, List.mem_range'_1, true_and, and_true, and_false, false_and, Nat.reduceLT, Nat.reduceLeDiff, tyF, e1, e2, g1, hn, zerStats]
  have hm2 := more_alloc w1 (.cells (ints z31).toArray 65)
  have hb2 := Blk.new w1 65 (ints z31).toArray
  have s2 := size_alloc w1 (.cells (ints z31).toArray 65)
  generalize w1.alloc (.cells (ints z31).toArray 65) = w2 at hm2 hb2 s2 ⊢
  have hm3 := more_alloc w2 (.cells (ints z31).toArray 65)
  have hb3 := Blk.new w2 65 (ints z31).toArray
  have s3 := size_alloc w2 (.cells (ints z31).toArray 65)
  generalize w2.alloc (.cells (ints z31).toArray 65) = w3 at hm3 hb3 s3 ⊢
  rw [List.toList_toArray] at hb2 hb3
  have hb23 := hb2.more hm3
  have hm := (hm1.trans hm2).trans hm3
  have hlt : ∀ a, A = some a → 0 < l.length → a.block < w.heap.size := by
    intro a ha hp
    subst ha
    have := hA.elem (fun m _ => AddedM.cells_len m) (i := 0) (m := l[0]) (j := 0) (by simp [hp]) (by omega)
    obtain ⟨b, hb, hcell⟩ := this
    cases hb
    have h1 := World.block_lt_of_cell? w _ hcell
    rwa [add_block] at h1
  have g0 : (0 : Int) ≤ (n : Int) := by omega
  have hs1 := hm1.size
  refine call_ok Try.call34 (law29_count w3 _ z31 A l c rfl hb23 (hA.more hm) (fun a ha hp => by have := hlt a ha hp; omega) (by omega)) ?_
  rintro _ w4 ⟨rfl, hb4, hm4⟩
  have hb34 := hm4.blk hb3 (by omega)
  have hA4 : Cs w4 A (l.flatMap AddedM.cells) := by
    intro i v hi
    have hp : 0 < l.length := by
      cases l with
      | nil => simp at hi
      | cons => exact Nat.succ_pos _
    exact hm4.cs (hA.more hm) (fun a ha hq => by have := hlt a ha hp; omega) i v hi
  have hnc : n ≤ c := by omega
  have sd : (l.drop n).length = l.length - n := List.length_drop
  have st : (l.take n).length = n := by rw [List.length_take]; omega
  have sc := cntM_len (l.drop n) z31
  simp (config := {maxSteps := 1000000}) only [↓zvD, zvU, ↓up_apply, ↓hv_apply, ↓upO_some, ↓upO_none, ↓ev_tmp, ↓ev_const, ↓ev_func, ↓ev_global, init, Nat.reduceEqDiff, Nat.reduceAdd, Nat.reduceMul, Nat.reduceSub, ↓reduceIte, Int.reduceEq, Int.reduceNe, Nat.reduceLeDiff, one, Value.cells, Int.reduceLE, Int.reduceLT, Int.reduceToNat, add_mk, reduceCtorEq, List.mem_range'_1, true_and, and_true, and_false, false_and, Nat.reduceLT, Nat.reduceLeDiff, tyF]
  rw [e1, e2, hn, Int.toNat_natCast]
  refine ⟨g0, hn1, ?_⟩
  have hcd := law29_count w4 w2.heap.size z31 (adv A c n 3) (l.drop n) (c - n) rfl hb34 (hA4.rowDrop (fun m _ => AddedM.cells_len m) hc n) (fun a ha hp => by
    obtain ⟨b, rfl⟩ := hA.some_of (by rw [row_len _ (fun m _ => AddedM.cells_len m)]; omega)
    have h1 := hlt b rfl (by omega)
    have h2 := adv_blk a ha
    omega) (by omega)
  rw [sd] at hcd
  refine call_ok Try.call34 hcd ?_
  rintro _ w5 ⟨rfl, hb5, hm5⟩
  have hA5 : Cs w5 A (l.flatMap AddedM.cells) := by
    intro i v hi
    have hp : 0 < l.length := by
      cases l with
      | nil => simp at hi
      | cons => exact Nat.succ_pos _
    exact hm5.cs hA4 (fun a ha hq => by have := hlt a ha hp; omega) i v hi
  have hb45 := hm5.blk hb4 (by omega)
  simp (config := {maxSteps := 1000000}) only [↓zvD, zvU, ↓up_apply, ↓hv_apply, ↓upO_some, ↓upO_none, ↓ev_tmp, ↓ev_const, ↓ev_func, ↓ev_global, init, Nat.reduceEqDiff, Nat.reduceAdd, Nat.reduceMul, Nat.reduceSub, ↓reduceIte, Int.reduceEq, Int.reduceNe, Nat.reduceLeDiff, one, Value.cells, Int.reduceLE, Int.reduceLT, Int.reduceToNat, add_mk, reduceCtorEq, List.mem_range'_1, true_and, and_true, and_false, false_and, Nat.reduceLT, Nat.reduceLeDiff, tyF]
  rw [Int.toNat_natCast]
  refine ⟨g0, hnc, ?_⟩
  have hct := law29_count w5 w2.heap.size (cntM z31 (l.drop n)) A (l.take n) c (by rw [cntM_len]; rfl) hb5 (hA5.rowTake n) (fun a ha hp => by
    have h1 := hlt a ha (by omega)
    omega) (by omega)
  rw [st] at hct
  refine call_ok Try.call34 hct ?_
  rintro _ w6 ⟨rfl, hb6, hm6⟩
  rw [cntM_swap] at hb6
  have hb46 := hm6.blk hb45 (by omega)
  have sl : (cntM z31 l).length = 31 := by rw [cntM_len]; rfl
  have v1 := hb46.all_eq 31 (by rw [ints_len, sl])
  have v2 := hb6.all_eq 31 (by rw [ints_len, sl])
  have he := stat_eq sl sl w
  simp (config := {maxSteps := 1000000}) only [↓zvD, zvU, ↓up_apply, ↓hv_apply, ↓upO_some, ↓upO_none, ↓ev_tmp, ↓ev_const, ↓ev_func, ↓ev_global, init, Nat.reduceEqDiff, Nat.reduceAdd, Nat.reduceMul, Nat.reduceSub, ↓reduceIte, Int.reduceEq, Int.reduceNe, Nat.reduceLeDiff, one, Value.cells, Int.reduceLE, Int.reduceLT, Int.reduceToNat, add_mk, reduceCtorEq, List.mem_range'_1, true_and, and_true, and_false, false_and, Nat.reduceLT, Nat.reduceLeDiff, tyF, v1, v2, he]
  have hlow : ∀ (p : Nat) {x y : World}, Mod (fun k => k = p) x y → w.heap.size ≤ p → More w x → More w y := fun p x y h hp hw => h.more hw fun k hk hq => by omega
  exact hlow _ hm6 (by omega) (hlow _ hm5 (by omega) (hlow _ hm4 (by omega) hm))
end Go.Proofs.Ytgbhgjghlnknjaa
