/-
  Layer 29: stats.
-/
import Derived.Test.YtahcaplhdgphcaaGreatInts
import Derived.Test.YtahcaplhdgphcaaGreatCount
import Derived.Test.YtahcaplhdgphcaaGreatCurRef
import Derived.Test.YtahcaplhdgphcaaGreatEq
import Derived.Test.YtahcaplhdgphcaaGreatRw
namespace Go.Proofs.YtahcaplhdgphcaaGreat
open Go Go.RowKit Go.Proofs.RV
set_option linter.unusedSimpArgs false
set_option linter.unusedVariables false
set_option maxRecDepth 10000
set_option maxHeartbeats 4000000

/-- something more is counted at a place -/
def bump (s : List Int) (k : Nat) (n : Int) : List Int := s.set k (addM (s.getD k 0) n)
theorem ints_bump (s : List Int) (k : Nat) (n : Int) : (ints s).set k (.int .i64 (addM (s.getD k 0) n)) = ints (bump s k n) := by
  simp [ints, bump, List.map_set]
def StatR (p : Nat) (s : List Int) (w : World) (v : Value) (w' : World) : Prop := v = .tuple #[] ∧ Blk w' p 37 (ints s) ∧ Mod (fun k => k = p) w w'
def Pair2 (a b : Int) (v : Value) (w : World) : Prop := ∃ q, v = .slice (some ⟨q, 0, none⟩) 2 2 ∧ Blk w q 2 (two2 a b)
def IsInt (n : Int) (v : Value) (_ : World) : Prop := v = .int .i64 n
theorem stats_add (w : World) (p : Nat) (s : List Int) (kind n : Int) (hs : s.length = 31) (hb : Blk w p 37 (ints s)) :
    Ret Tryz.prog 28 #[.pointer (some ⟨p, 0, none⟩), .int .i64 kind, .int .i64 n] w (StatR p (if 0 ≤ kind ∧ kind < 15 then bump s kind.toNat n else s) w) := by
  refine ret_of Tryz.func28 rfl (by kernel_rfl) (Nat.le_of_ble_eq_true (by kernel_rfl)) ?_
  simp (config := {maxSteps := 1000000, implicitDefEqProofs := false}) only [↓zvD, zvU, ↓up_apply, ↓hv_apply, ↓upO_some, ↓upO_none, ↓ev_tmp, ↓ev_const, ↓ev_func, ↓ev_global, init, Nat.reduceEqDiff, Nat.reduceAdd, Nat.reduceMul, Nat.reduceSub, ↓reduceIte, Int.reduceEq, Int.reduceNe, Nat.reduceLeDiff, one, Value.cells, Int.reduceLE, Int.reduceLT, Int.reduceToNat, add_mk, reduceCtorEq, List.mem_range'_1, true_and, and_true, and_false, false_and, Nat.reduceLT, Nat.reduceLeDiff, tyF]
  refine ⟨fun h0 => ⟨fun h1 => ?_, fun h1 => ?_⟩, fun h0 => ?_⟩
  rotate_left
  · rw [if_neg (by omega)]
    exact ⟨rfl, hb, Mod.refl _ _⟩
  · rw [if_neg (by omega)]
    exact ⟨rfl, hb, Mod.refl _ _⟩
  rw [if_pos ⟨h0, h1⟩]
  obtain ⟨k, rfl⟩ := Int.eq_ofNat_of_zero_le h0
  rw [Int.toNat_natCast]
  have hk : k < 31 := by omega
  have hc := hb.cell
  have hx := ints_at (s := s) (k := k) (by omega)
  have g1 : (k : Int) < 15 := h1
  refine draw_seen 13 [[], [], [], [], [2], [2, 4], [2, 3, 4, 5], [2, 3, 4, 5, 6], [], [2, 3, 4, 5, 6, 7, 8], [2, 3, 4, 5, 6, 7, 8, 9], [0], [0, 11], [0, 1, 2, 3, 4, 5, 6, 7, 8, 9, 10, 11, 12], [0, 1, 2, 3, 4, 5, 6, 7, 8, 9, 10, 11, 12, 13]] (RV.look [(9, Pair2 (s.getD k 0) n), (10, IsInt (addM (s.getD k 0) n))]) mixed (by kernel_rfl) (by kernel_rfl) (look_keeps _ (by
    intro z hz
    simp only [List.mem_cons, List.not_mem_nil, or_false] at hz
    rcases hz with rfl | rfl
    · exact fun v a b hab ⟨q, e, hq⟩ => ⟨q, e, hq.more hab⟩
    · exact fun v a b hab h => h)) ?_
  simp (config := {maxSteps := 1000000, implicitDefEqProofs := false}) only [↓zvD, zvU, ↓zqD, ↓up_apply, ↓hv_apply, ↓upO_some, ↓upO_none, ↓ev_tmp, ↓ev_const, ↓ev_func, ↓ev_global, init, Nat.reduceEqDiff, Nat.reduceAdd, Nat.reduceMul, Nat.reduceSub, ↓reduceIte, Int.reduceEq, Int.reduceNe, Nat.reduceLeDiff, one, Value.cells, Int.reduceLE, Int.reduceLT, Int.reduceToNat, add_mk, reduceCtorEq, List.mem_range'_1, true_and, and_true, and_false, false_and, Nat.reduceLT, Nat.reduceLeDiff, tyF, hc, hx, h0, g1, Int.toNat_natCast, Nat.zero_add]
  refine ⟨fun w1 hm1 => ?_, ?_⟩
  · refine bslice (z := .int .i64 0) (cells := #[.int .i64 (s.getD k 0), .int .i64 n]) Tryz.underlying22 int64E (by omega) (by have := bcells_list (z := .int .i64 0) [.int .i64 (s.getD k 0), .int .i64 n] (by intro v hv; simp at hv; rcases hv with rfl | rfl <;> rfl); exact this) ?_
    simp (config := {maxSteps := 1000000, implicitDefEqProofs := false}) only [↓zvD, zvU, ↓zqD, ↓up_apply, ↓hv_apply, ↓upO_some, ↓upO_none, ↓ev_tmp, ↓ev_const, ↓ev_func, ↓ev_global, init, Nat.reduceEqDiff, Nat.reduceAdd, Nat.reduceMul, Nat.reduceSub, ↓reduceIte, Int.reduceEq, Int.reduceNe, Nat.reduceLeDiff, one, Value.cells, Int.reduceLE, Int.reduceLT, Int.reduceToNat, add_mk, reduceCtorEq, List.mem_range'_1, true_and, and_true, and_false, false_and, Nat.reduceLT, Nat.reduceLeDiff]
    exact ⟨more_alloc _ _, _, rfl, Blk.new _ _ _⟩
  rintro _ ⟨w1, hm1, q, rfl, hq⟩
  simp (config := {maxSteps := 1000000, implicitDefEqProofs := false}) only [↓zvD, zvU, ↓zqD, ↓up_apply, ↓hv_apply, ↓upO_some, ↓upO_none, ↓ev_tmp, ↓ev_const, ↓ev_func, ↓ev_global, init, Nat.reduceEqDiff, Nat.reduceAdd, Nat.reduceMul, Nat.reduceSub, ↓reduceIte, Int.reduceEq, Int.reduceNe, Nat.reduceLeDiff, one, Value.cells, Int.reduceLE, Int.reduceLT, Int.reduceToNat, add_mk, reduceCtorEq, List.mem_range'_1, true_and, and_true, and_false, false_and, Nat.reduceLT, Nat.reduceLeDiff, tyF, hc, hx, h0, g1, Int.toNat_natCast, Nat.zero_add]
  refine ⟨fun w2 hm2 hh => ?_, ?_⟩
  · obtain ⟨q', e, hq'⟩ := hh
    cases e
    refine call_ok Tryz.call56 (num_add w2 _ n q hq') ?_
    rintro _ w3 ⟨rfl, rfl⟩
    simp (config := {maxSteps := 1000000, implicitDefEqProofs := false}) only [↓zvD, zvU, ↓zqD, ↓up_apply, ↓hv_apply, ↓upO_some, ↓upO_none, ↓ev_tmp, ↓ev_const, ↓ev_func, ↓ev_global, init, Nat.reduceEqDiff, Nat.reduceAdd, Nat.reduceMul, Nat.reduceSub, ↓reduceIte, Int.reduceEq, Int.reduceNe, Nat.reduceLeDiff, one, Value.cells, Int.reduceLE, Int.reduceLT, Int.reduceToNat, add_mk, reduceCtorEq, List.mem_range'_1, true_and, and_true, and_false, false_and, Nat.reduceLT, Nat.reduceLeDiff]
    exact ⟨More.refl _, rfl⟩
  rintro _ ⟨w2, hm2, _, rfl⟩
  simp (config := {maxSteps := 1000000, implicitDefEqProofs := false}) only [↓zvD, zvU, ↓zqD, ↓up_apply, ↓hv_apply, ↓upO_some, ↓upO_none, ↓ev_tmp, ↓ev_const, ↓ev_func, ↓ev_global, init, Nat.reduceEqDiff, Nat.reduceAdd, Nat.reduceMul, Nat.reduceSub, ↓reduceIte, Int.reduceEq, Int.reduceNe, Nat.reduceLeDiff, one, Value.cells, Int.reduceLE, Int.reduceLT, Int.reduceToNat, add_mk, reduceCtorEq, List.mem_range'_1, true_and, and_true, and_false, false_and, Nat.reduceLT, Nat.reduceLeDiff, tyF, hc, hx, h0, g1, Int.toNat_natCast, Nat.zero_add]
  intro w3 hm3 _
  refine st_cell (i := k) (v := .int .i64 (addM (s.getD k 0) n)) (hb.more hm3) (by simp [ints]; omega) rfl fun w4 k1 k2 => ?_
  rw [ints_bump] at k2
  exact ⟨rfl, k2, (Mod.of_more hm3).trans (Mod.of_wr k1 rfl)⟩
theorem stats_because (w : World) (p : Nat) (s : List Int) (kind n : Int) (hs : s.length = 31) (hb : Blk w p 37 (ints s)) :
    Ret Tryz.prog 30 #[.pointer (some ⟨p, 0, none⟩), .int .i64 kind, .int .i64 n] w (StatR p (if 0 ≤ kind ∧ kind < 16 then bump s (15 + kind.toNat) n else s) w) := by
  refine ret_of Tryz.func30 rfl (by kernel_rfl) (Nat.le_of_ble_eq_true (by kernel_rfl)) ?_
  simp (config := {maxSteps := 1000000, implicitDefEqProofs := false}) only [↓zvD, zvU, ↓up_apply, ↓hv_apply, ↓upO_some, ↓upO_none, ↓ev_tmp, ↓ev_const, ↓ev_func, ↓ev_global, init, Nat.reduceEqDiff, Nat.reduceAdd, Nat.reduceMul, Nat.reduceSub, ↓reduceIte, Int.reduceEq, Int.reduceNe, Nat.reduceLeDiff, one, Value.cells, Int.reduceLE, Int.reduceLT, Int.reduceToNat, add_mk, reduceCtorEq, List.mem_range'_1, true_and, and_true, and_false, false_and, Nat.reduceLT, Nat.reduceLeDiff, tyF]
  refine ⟨fun h0 => ⟨fun h1 => ?_, fun h1 => ?_⟩, fun h0 => ?_⟩
  rotate_left
  · rw [if_neg (by omega)]
    exact ⟨rfl, hb, Mod.refl _ _⟩
  · rw [if_neg (by omega)]
    exact ⟨rfl, hb, Mod.refl _ _⟩
  rw [if_pos ⟨h0, h1⟩]
  obtain ⟨k, rfl⟩ := Int.eq_ofNat_of_zero_le h0
  rw [Int.toNat_natCast]
  have hk : k < 31 := by omega
  have hc := hb.cell
  have hx := ints_at (s := s) (k := 15 + k) (by omega)
  have g1 : (k : Int) < 16 := h1
  refine draw_seen 13 [[], [], [], [], [2], [2, 4], [2, 3, 4, 5], [2, 3, 4, 5, 6], [], [2, 3, 4, 5, 6, 7, 8], [2, 3, 4, 5, 6, 7, 8, 9], [0], [0, 11], [0, 1, 2, 3, 4, 5, 6, 7, 8, 9, 10, 11, 12], [0, 1, 2, 3, 4, 5, 6, 7, 8, 9, 10, 11, 12, 13]] (RV.look [(9, Pair2 (s.getD (15 + k) 0) n), (10, IsInt (addM (s.getD (15 + k) 0) n))]) mixed (by kernel_rfl) (by kernel_rfl) (look_keeps _ (by
    intro z hz
    simp only [List.mem_cons, List.not_mem_nil, or_false] at hz
    rcases hz with rfl | rfl
    · exact fun v a b hab ⟨q, e, hq⟩ => ⟨q, e, hq.more hab⟩
    · exact fun v a b hab h => h)) ?_
  simp (config := {maxSteps := 1000000, implicitDefEqProofs := false}) only [↓zvD, zvU, ↓zqD, ↓up_apply, ↓hv_apply, ↓upO_some, ↓upO_none, ↓ev_tmp, ↓ev_const, ↓ev_func, ↓ev_global, init, Nat.reduceEqDiff, Nat.reduceAdd, Nat.reduceMul, Nat.reduceSub, ↓reduceIte, Int.reduceEq, Int.reduceNe, Nat.reduceLeDiff, one, Value.cells, Int.reduceLE, Int.reduceLT, Int.reduceToNat, add_mk, reduceCtorEq, List.mem_range'_1, true_and, and_true, and_false, false_and, Nat.reduceLT, Nat.reduceLeDiff, tyF, hc, hx, h0, g1, Int.toNat_natCast, Nat.zero_add]
  refine ⟨fun w1 hm1 => ?_, ?_⟩
  · refine bslice (z := .int .i64 0) (cells := #[.int .i64 (s.getD (15 + k) 0), .int .i64 n]) Tryz.underlying22 int64E (by omega) (by have := bcells_list (z := .int .i64 0) [.int .i64 (s.getD (15 + k) 0), .int .i64 n] (by intro v hv; simp at hv; rcases hv with rfl | rfl <;> rfl); exact this) ?_
    simp (config := {maxSteps := 1000000, implicitDefEqProofs := false}) only [↓zvD, zvU, ↓zqD, ↓up_apply, ↓hv_apply, ↓upO_some, ↓upO_none, ↓ev_tmp, ↓ev_const, ↓ev_func, ↓ev_global, init, Nat.reduceEqDiff, Nat.reduceAdd, Nat.reduceMul, Nat.reduceSub, ↓reduceIte, Int.reduceEq, Int.reduceNe, Nat.reduceLeDiff, one, Value.cells, Int.reduceLE, Int.reduceLT, Int.reduceToNat, add_mk, reduceCtorEq, List.mem_range'_1, true_and, and_true, and_false, false_and, Nat.reduceLT, Nat.reduceLeDiff]
    exact ⟨more_alloc _ _, _, rfl, Blk.new _ _ _⟩
  rintro _ ⟨w1, hm1, q, rfl, hq⟩
  simp (config := {maxSteps := 1000000, implicitDefEqProofs := false}) only [↓zvD, zvU, ↓zqD, ↓up_apply, ↓hv_apply, ↓upO_some, ↓upO_none, ↓ev_tmp, ↓ev_const, ↓ev_func, ↓ev_global, init, Nat.reduceEqDiff, Nat.reduceAdd, Nat.reduceMul, Nat.reduceSub, ↓reduceIte, Int.reduceEq, Int.reduceNe, Nat.reduceLeDiff, one, Value.cells, Int.reduceLE, Int.reduceLT, Int.reduceToNat, add_mk, reduceCtorEq, List.mem_range'_1, true_and, and_true, and_false, false_and, Nat.reduceLT, Nat.reduceLeDiff, tyF, hc, hx, h0, g1, Int.toNat_natCast, Nat.zero_add]
  refine ⟨fun w2 hm2 hh => ?_, ?_⟩
  · obtain ⟨q', e, hq'⟩ := hh
    cases e
    refine call_ok Tryz.call56 (num_add w2 _ n q hq') ?_
    rintro _ w3 ⟨rfl, rfl⟩
    simp (config := {maxSteps := 1000000, implicitDefEqProofs := false}) only [↓zvD, zvU, ↓zqD, ↓up_apply, ↓hv_apply, ↓upO_some, ↓upO_none, ↓ev_tmp, ↓ev_const, ↓ev_func, ↓ev_global, init, Nat.reduceEqDiff, Nat.reduceAdd, Nat.reduceMul, Nat.reduceSub, ↓reduceIte, Int.reduceEq, Int.reduceNe, Nat.reduceLeDiff, one, Value.cells, Int.reduceLE, Int.reduceLT, Int.reduceToNat, add_mk, reduceCtorEq, List.mem_range'_1, true_and, and_true, and_false, false_and, Nat.reduceLT, Nat.reduceLeDiff]
    exact ⟨More.refl _, rfl⟩
  rintro _ ⟨w2, hm2, _, rfl⟩
  simp (config := {maxSteps := 1000000, implicitDefEqProofs := false}) only [↓zvD, zvU, ↓zqD, ↓up_apply, ↓hv_apply, ↓upO_some, ↓upO_none, ↓ev_tmp, ↓ev_const, ↓ev_func, ↓ev_global, init, Nat.reduceEqDiff, Nat.reduceAdd, Nat.reduceMul, Nat.reduceSub, ↓reduceIte, Int.reduceEq, Int.reduceNe, Nat.reduceLeDiff, one, Value.cells, Int.reduceLE, Int.reduceLT, Int.reduceToNat, add_mk, reduceCtorEq, List.mem_range'_1, true_and, and_true, and_false, false_and, Nat.reduceLT, Nat.reduceLeDiff, tyF, hc, hx, h0, g1, Int.toNat_natCast, Nat.zero_add]
  intro w3 hm3 _
  refine st_cell (i := 15 + k) (v := .int .i64 (addM (s.getD (15 + k) 0) n)) (hb.more hm3) (by simp [ints]; omega) rfl fun w4 k1 k2 => ?_
  rw [ints_bump] at k2
  exact ⟨rfl, k2, (Mod.of_more hm3).trans (Mod.of_wr k1 rfl)⟩
theorem stat_flat {s : List Int} (h : s.length = 31) : Flat Tryz.prog 3 37 (ints s) :=
  flat_struct Tryz.underlying37 (by kernel_rfl)
    ⟨by decide, rfl, ints (s.take 15), ints (s.drop 15), by simp only [ints, ← List.map_append, List.take_append_drop], by rw [ints_len, List.length_take, h, cells34]; rfl, flat_ints Tryz.underlying34 Tryz.underlying2 cells2 (by rw [List.length_take, h]; rfl),
     by decide, by rw [ints_len, List.length_take, h]; rfl, ints (s.drop 15), [], by simp, by rw [ints_len, List.length_drop, h, cells35], flat_ints Tryz.underlying35 Tryz.underlying2 cells2 (by rw [List.length_drop, h]), rfl⟩
theorem stat_g : Tryz.prog.eqGuardType Tryz.prog.depth 37 = false := by kernel_rfl
theorem stat_tv (cs : List Value) : tv Tryz.prog 37 cs = .agg cs.toArray := by unfold tv; rw [Tryz.underlying37]
open Classical in
theorem stat_eq {a b : List Int} (ha : a.length = 31) (hb : b.length = 31) (w0 : World) (ox oy : Operand) (K : Value → Prop) :
    pureP Tryz.prog (do eqGuard .eql 37 ox oy (.agg (ints a).toArray) (.agg (ints b).toArray); binOp .eql 37 (.agg (ints a).toArray) (.agg (ints b).toArray)) K = K (.bool (decide (a = b))) := by
  rw [eql_flat (n := 3) stat_g ⟨stat_tv _, stat_tv _⟩ (stat_flat ha) (stat_flat hb) (by omega) w0 ox oy K]
  simp only [ints_inj]
end Go.Proofs.YtahcaplhdgphcaaGreat
