/-
  A new engine; counting in it; a bucket ahead, while none are moved.
-/
import Derived.Test.YtahcaplhdgphcaaGreatPolN
import Derived.Test.YtahcaplhdgphcaaGreatStats
namespace Go.Proofs.YtahcaplhdgphcaaGreat
open Go Go.RowKit Go.Proofs.RV
set_option linter.unusedSimpArgs false
set_option linter.unusedVariables false
set_option maxRecDepth 10000
set_option maxHeartbeats 4000000
def engCells (s p : Nat) (now : Int) (st : List Int) : List Value := ptrV s :: ptrV p :: .int .i64 now :: ints st
theorem eng_at {s p : Nat} {now : Int} {st : List Int} (hs : st.length = 31) {k : Nat} (hk : k < 31) : (engCells s p now st)[3 + k]? = some (.int .i64 (st.getD k 0)) := by
  unfold engCells
  rw [show 3 + k = k + 1 + 1 + 1 by omega, List.getElem?_cons_succ, List.getElem?_cons_succ, List.getElem?_cons_succ]
  exact ints_at (by omega)
theorem eng_len {s p : Nat} {now : Int} {st : List Int} (hs : st.length = 31) : (engCells s p now st).length = 34 := by simp [engCells, ints_len, hs]
theorem eng_set (s p : Nat) (now : Int) (st : List Int) (k : Nat) (n : Int) : (engCells s p now st).set (3 + k) (.int .i64 (addM (st.getD k 0) n)) = engCells s p now (bump st k n) := by
  unfold engCells
  rw [show 3 + k = k + 1 + 1 + 1 by omega, List.set_cons_succ, List.set_cons_succ, List.set_cons_succ, ints_bump]
theorem bump_len (s : List Int) (k : Nat) (n : Int) : (bump s k n).length = s.length := by simp [bump]
def EngR (e s p : Nat) (now : Int) (st : List Int) (w : World) (v : Value) (w' : World) : Prop := v = .tuple #[] ∧ Blk w' e 75 (engCells s p now st) ∧ But e w w'
theorem stats_addE (w : World) (e s p : Nat) (now : Int) (st : List Int) (k : Nat) (n : Int) (hs : st.length = 31) (hk1 : k < 15) (hb : Blk w e 75 (engCells s p now st)) :
    Ret Tryz.prog 28 #[.pointer (some ⟨e, 3, none⟩), .int .i64 k, .int .i64 n] w (EngR e s p now (bump st k n) w) := by
  refine ret_of Tryz.func28 rfl (by kernel_rfl) (Nat.le_of_ble_eq_true (by kernel_rfl)) ?_
  have h0 : (0 : Int) ≤ (k : Int) := by omega
  have g1 : (k : Int) < 15 := by omega
  have hx : w.cell? ⟨e, 3 + k, none⟩ = some (.int .i64 (st.getD k 0)) := by rw [hb.cell, show 3 + k = 3 + k by omega]; exact eng_at hs (by omega)
  have hel := hb.lt
  simp (config := {maxSteps := 1000000, implicitDefEqProofs := false}) only [↓zvN, zvU, ↓up_apply, ↓hv_apply, ↓upO_some, ↓upO_none, ↓ev_tmp, ↓ev_const, ↓ev_func, ↓ev_global, init, Nat.reduceEqDiff, Nat.reduceAdd, Nat.reduceMul, Nat.reduceSub, ↓reduceIte, Int.reduceEq, Int.reduceNe, Nat.reduceLeDiff, one, Value.cells, Int.reduceLE, Int.reduceLT, Int.reduceToNat, add_mk, reduceCtorEq, List.mem_range'_1, true_and, and_true, and_false, false_and, Nat.reduceLT, Nat.reduceLeDiff, tyF, h0, g1]
  refine draw_seen 13 [[], [], [], [], [2], [2, 4], [2, 3, 4, 5], [2, 3, 4, 5, 6], [], [2, 3, 4, 5, 6, 7, 8], [2, 3, 4, 5, 6, 7, 8, 9], [0], [0, 11], [0, 1, 2, 3, 4, 5, 6, 7, 8, 9, 10, 11, 12], [0, 1, 2, 3, 4, 5, 6, 7, 8, 9, 10, 11, 12, 13]] (RV.look [(9, Pair2 (st.getD k 0) n), (10, IsInt (addM (st.getD k 0) n))]) mixed (by kernel_rfl) (by kernel_rfl) (look_keeps _ (by
    intro z hz
    simp only [List.mem_cons, List.not_mem_nil, or_false] at hz
    rcases hz with rfl | rfl
    · exact fun v a b hab ⟨q, e, hq⟩ => ⟨q, e, hq.more hab⟩
    · exact fun v a b hab h => h)) ?_
  simp (config := {maxSteps := 1000000, implicitDefEqProofs := false}) only [↓zvN, zvU, ↓zqD, ↓up_apply, ↓hv_apply, ↓upO_some, ↓upO_none, ↓ev_tmp, ↓ev_const, ↓ev_func, ↓ev_global, init, Nat.reduceEqDiff, Nat.reduceAdd, Nat.reduceMul, Nat.reduceSub, ↓reduceIte, Int.reduceEq, Int.reduceNe, Nat.reduceLeDiff, one, Value.cells, Int.reduceLE, Int.reduceLT, Int.reduceToNat, add_mk, reduceCtorEq, List.mem_range'_1, true_and, and_true, and_false, false_and, Nat.reduceLT, Nat.reduceLeDiff, tyF, hx, h0, g1, hel, Int.toNat_natCast, Nat.zero_add]
  refine ⟨fun w1 hm1 => ?_, ?_⟩
  · refine bslice (z := .int .i64 0) (cells := #[.int .i64 (st.getD k 0), .int .i64 n]) Tryz.underlying22 int64E (by omega) (by have := bcells_list (z := .int .i64 0) [.int .i64 (st.getD k 0), .int .i64 n] (by intro v hv; simp at hv; rcases hv with rfl | rfl <;> rfl); exact this) ?_
    simp (config := {maxSteps := 1000000, implicitDefEqProofs := false}) only [↓zvN, zvU, ↓zqD, ↓up_apply, ↓hv_apply, ↓upO_some, ↓upO_none, ↓ev_tmp, ↓ev_const, ↓ev_func, ↓ev_global, init, Nat.reduceEqDiff, Nat.reduceAdd, Nat.reduceMul, Nat.reduceSub, ↓reduceIte, Int.reduceEq, Int.reduceNe, Nat.reduceLeDiff, one, Value.cells, Int.reduceLE, Int.reduceLT, Int.reduceToNat, add_mk, reduceCtorEq, List.mem_range'_1, true_and, and_true, and_false, false_and, Nat.reduceLT, Nat.reduceLeDiff]
    exact ⟨more_alloc _ _, _, rfl, Blk.new _ _ _⟩
  rintro _ ⟨w1, hm1, q, rfl, hq⟩
  simp (config := {maxSteps := 1000000, implicitDefEqProofs := false}) only [↓zvN, zvU, ↓zqD, ↓up_apply, ↓hv_apply, ↓upO_some, ↓upO_none, ↓ev_tmp, ↓ev_const, ↓ev_func, ↓ev_global, init, Nat.reduceEqDiff, Nat.reduceAdd, Nat.reduceMul, Nat.reduceSub, ↓reduceIte, Int.reduceEq, Int.reduceNe, Nat.reduceLeDiff, one, Value.cells, Int.reduceLE, Int.reduceLT, Int.reduceToNat, add_mk, reduceCtorEq, List.mem_range'_1, true_and, and_true, and_false, false_and, Nat.reduceLT, Nat.reduceLeDiff, tyF, hx, h0, g1, hel, Int.toNat_natCast, Nat.zero_add]
  refine ⟨fun w2 hm2 hh => ?_, ?_⟩
  · obtain ⟨q', e, hq'⟩ := hh
    cases e
    refine call_ok Tryz.call56 (num_add w2 _ n q hq') ?_
    rintro _ w3 ⟨rfl, rfl⟩
    simp (config := {maxSteps := 1000000, implicitDefEqProofs := false}) only [↓zvN, zvU, ↓zqD, ↓up_apply, ↓hv_apply, ↓upO_some, ↓upO_none, ↓ev_tmp, ↓ev_const, ↓ev_func, ↓ev_global, init, Nat.reduceEqDiff, Nat.reduceAdd, Nat.reduceMul, Nat.reduceSub, ↓reduceIte, Int.reduceEq, Int.reduceNe, Nat.reduceLeDiff, one, Value.cells, Int.reduceLE, Int.reduceLT, Int.reduceToNat, add_mk, reduceCtorEq, List.mem_range'_1, true_and, and_true, and_false, false_and, Nat.reduceLT, Nat.reduceLeDiff]
    exact ⟨More.refl _, rfl⟩
  rintro _ ⟨w2, hm2, _, rfl⟩
  simp (config := {maxSteps := 1000000, implicitDefEqProofs := false}) only [↓zvN, zvU, ↓zqD, ↓up_apply, ↓hv_apply, ↓upO_some, ↓upO_none, ↓ev_tmp, ↓ev_const, ↓ev_func, ↓ev_global, init, Nat.reduceEqDiff, Nat.reduceAdd, Nat.reduceMul, Nat.reduceSub, ↓reduceIte, Int.reduceEq, Int.reduceNe, Nat.reduceLeDiff, one, Value.cells, Int.reduceLE, Int.reduceLT, Int.reduceToNat, add_mk, reduceCtorEq, List.mem_range'_1, true_and, and_true, and_false, false_and, Nat.reduceLT, Nat.reduceLeDiff, tyF, hx, h0, g1, hel, Int.toNat_natCast, Nat.zero_add]
  intro w3 hm3 _
  refine st_cell (i := 3 + k) (v := .int .i64 (addM (st.getD k 0) n)) (hb.more hm3) (by rw [eng_len hs]; omega) rfl fun w4 k1 k2 => ?_
  rw [show 3 + k = 3 + k by omega, eng_set] at k2
  exact ⟨rfl, k2, (But.of_more hm3).trans (But.of_wr k1)⟩
theorem stats_becE (w : World) (e s p : Nat) (now : Int) (st : List Int) (k : Nat) (n : Int) (hs : st.length = 31) (hk1 : k < 16) (hb : Blk w e 75 (engCells s p now st)) :
    Ret Tryz.prog 30 #[.pointer (some ⟨e, 3, none⟩), .int .i64 k, .int .i64 n] w (EngR e s p now (bump st (15 + k) n) w) := by
  refine ret_of Tryz.func30 rfl (by kernel_rfl) (Nat.le_of_ble_eq_true (by kernel_rfl)) ?_
  have h0 : (0 : Int) ≤ (k : Int) := by omega
  have g1 : (k : Int) < 16 := by omega
  have hx : w.cell? ⟨e, 18 + k, none⟩ = some (.int .i64 (st.getD (15 + k) 0)) := by rw [hb.cell, show 18 + k = 3 + (15 + k) by omega]; exact eng_at hs (by omega)
  have hel := hb.lt
  simp (config := {maxSteps := 1000000, implicitDefEqProofs := false}) only [↓zvN, zvU, ↓up_apply, ↓hv_apply, ↓upO_some, ↓upO_none, ↓ev_tmp, ↓ev_const, ↓ev_func, ↓ev_global, init, Nat.reduceEqDiff, Nat.reduceAdd, Nat.reduceMul, Nat.reduceSub, ↓reduceIte, Int.reduceEq, Int.reduceNe, Nat.reduceLeDiff, one, Value.cells, Int.reduceLE, Int.reduceLT, Int.reduceToNat, add_mk, reduceCtorEq, List.mem_range'_1, true_and, and_true, and_false, false_and, Nat.reduceLT, Nat.reduceLeDiff, tyF, h0, g1]
  refine draw_seen 13 [[], [], [], [], [2], [2, 4], [2, 3, 4, 5], [2, 3, 4, 5, 6], [], [2, 3, 4, 5, 6, 7, 8], [2, 3, 4, 5, 6, 7, 8, 9], [0], [0, 11], [0, 1, 2, 3, 4, 5, 6, 7, 8, 9, 10, 11, 12], [0, 1, 2, 3, 4, 5, 6, 7, 8, 9, 10, 11, 12, 13]] (RV.look [(9, Pair2 (st.getD (15 + k) 0) n), (10, IsInt (addM (st.getD (15 + k) 0) n))]) mixed (by kernel_rfl) (by kernel_rfl) (look_keeps _ (by
    intro z hz
    simp only [List.mem_cons, List.not_mem_nil, or_false] at hz
    rcases hz with rfl | rfl
    · exact fun v a b hab ⟨q, e, hq⟩ => ⟨q, e, hq.more hab⟩
    · exact fun v a b hab h => h)) ?_
  simp (config := {maxSteps := 1000000, implicitDefEqProofs := false}) only [↓zvN, zvU, ↓zqD, ↓up_apply, ↓hv_apply, ↓upO_some, ↓upO_none, ↓ev_tmp, ↓ev_const, ↓ev_func, ↓ev_global, init, Nat.reduceEqDiff, Nat.reduceAdd, Nat.reduceMul, Nat.reduceSub, ↓reduceIte, Int.reduceEq, Int.reduceNe, Nat.reduceLeDiff, one, Value.cells, Int.reduceLE, Int.reduceLT, Int.reduceToNat, add_mk, reduceCtorEq, List.mem_range'_1, true_and, and_true, and_false, false_and, Nat.reduceLT, Nat.reduceLeDiff, tyF, hx, h0, g1, hel, Int.toNat_natCast, Nat.zero_add]
  refine ⟨fun w1 hm1 => ?_, ?_⟩
  · refine bslice (z := .int .i64 0) (cells := #[.int .i64 (st.getD (15 + k) 0), .int .i64 n]) Tryz.underlying22 int64E (by omega) (by have := bcells_list (z := .int .i64 0) [.int .i64 (st.getD (15 + k) 0), .int .i64 n] (by intro v hv; simp at hv; rcases hv with rfl | rfl <;> rfl); exact this) ?_
    simp (config := {maxSteps := 1000000, implicitDefEqProofs := false}) only [↓zvN, zvU, ↓zqD, ↓up_apply, ↓hv_apply, ↓upO_some, ↓upO_none, ↓ev_tmp, ↓ev_const, ↓ev_func, ↓ev_global, init, Nat.reduceEqDiff, Nat.reduceAdd, Nat.reduceMul, Nat.reduceSub, ↓reduceIte, Int.reduceEq, Int.reduceNe, Nat.reduceLeDiff, one, Value.cells, Int.reduceLE, Int.reduceLT, Int.reduceToNat, add_mk, reduceCtorEq, List.mem_range'_1, true_and, and_true, and_false, false_and, Nat.reduceLT, Nat.reduceLeDiff]
    exact ⟨more_alloc _ _, _, rfl, Blk.new _ _ _⟩
  rintro _ ⟨w1, hm1, q, rfl, hq⟩
  simp (config := {maxSteps := 1000000, implicitDefEqProofs := false}) only [↓zvN, zvU, ↓zqD, ↓up_apply, ↓hv_apply, ↓upO_some, ↓upO_none, ↓ev_tmp, ↓ev_const, ↓ev_func, ↓ev_global, init, Nat.reduceEqDiff, Nat.reduceAdd, Nat.reduceMul, Nat.reduceSub, ↓reduceIte, Int.reduceEq, Int.reduceNe, Nat.reduceLeDiff, one, Value.cells, Int.reduceLE, Int.reduceLT, Int.reduceToNat, add_mk, reduceCtorEq, List.mem_range'_1, true_and, and_true, and_false, false_and, Nat.reduceLT, Nat.reduceLeDiff, tyF, hx, h0, g1, hel, Int.toNat_natCast, Nat.zero_add]
  refine ⟨fun w2 hm2 hh => ?_, ?_⟩
  · obtain ⟨q', e, hq'⟩ := hh
    cases e
    refine call_ok Tryz.call56 (num_add w2 _ n q hq') ?_
    rintro _ w3 ⟨rfl, rfl⟩
    simp (config := {maxSteps := 1000000, implicitDefEqProofs := false}) only [↓zvN, zvU, ↓zqD, ↓up_apply, ↓hv_apply, ↓upO_some, ↓upO_none, ↓ev_tmp, ↓ev_const, ↓ev_func, ↓ev_global, init, Nat.reduceEqDiff, Nat.reduceAdd, Nat.reduceMul, Nat.reduceSub, ↓reduceIte, Int.reduceEq, Int.reduceNe, Nat.reduceLeDiff, one, Value.cells, Int.reduceLE, Int.reduceLT, Int.reduceToNat, add_mk, reduceCtorEq, List.mem_range'_1, true_and, and_true, and_false, false_and, Nat.reduceLT, Nat.reduceLeDiff]
    exact ⟨More.refl _, rfl⟩
  rintro _ ⟨w2, hm2, _, rfl⟩
  simp (config := {maxSteps := 1000000, implicitDefEqProofs := false}) only [↓zvN, zvU, ↓zqD, ↓up_apply, ↓hv_apply, ↓upO_some, ↓upO_none, ↓ev_tmp, ↓ev_const, ↓ev_func, ↓ev_global, init, Nat.reduceEqDiff, Nat.reduceAdd, Nat.reduceMul, Nat.reduceSub, ↓reduceIte, Int.reduceEq, Int.reduceNe, Nat.reduceLeDiff, one, Value.cells, Int.reduceLE, Int.reduceLT, Int.reduceToNat, add_mk, reduceCtorEq, List.mem_range'_1, true_and, and_true, and_false, false_and, Nat.reduceLT, Nat.reduceLeDiff, tyF, hx, h0, g1, hel, Int.toNat_natCast, Nat.zero_add]
  intro w3 hm3 _
  refine st_cell (i := 18 + k) (v := .int .i64 (addM (st.getD (15 + k) 0) n)) (hb.more hm3) (by rw [eng_len hs]; omega) rfl fun w4 k1 k2 => ?_
  rw [show 18 + k = 3 + (15 + k) by omega, eng_set] at k2
  exact ⟨rfl, k2, (But.of_more hm3).trans (But.of_wr k1)⟩
/-- no bucket is moved -/
def Still (w : World) (p : Nat) : Prop := ∃ (c : List Int) (g : Nat) (s q t b0 b1 wi bx : Value) (n : Int) (m : GensM), c.length = 20 ∧ m.k0.length = 16 ∧ m.k1.length = 16 ∧ m.moving = false ∧ Blk w p 141 (polCells c (ptrV g) s q t b0 b1 wi bx n) ∧ Blk w g 231 m.cells
theorem blk_keep {w w' : World} {e q T T' : Nat} {cs cs' : List Value} (h : But e w w') (he : Blk w e T cs) (hb : Blk w q T' cs') (hT : T ≠ T') : Blk w' q T' cs' := h.blk hb (by rintro rfl; exact hT (blk_ty he hb))
theorem Still.keep {w w' : World} {e p T : Nat} {cs : List Value} (h : Still w p) (hm : But e w w') (he : Blk w e T cs) (h1 : T ≠ 141) (h2 : T ≠ 231) : Still w' p := by
  obtain ⟨c, g, s, q, t, b0, b1, wi, bx, n, m, g1, g2, g3, g4, g5, g6⟩ := h
  exact ⟨c, g, s, q, t, b0, b1, wi, bx, n, m, g1, g2, g3, g4, blk_keep hm he g5 h1, blk_keep hm he g6 h2⟩
theorem Still.more {w w' : World} {p : Nat} (h : Still w p) (hm : More w w') : Still w' p := by
  obtain ⟨c, g, s, q, t, b0, b1, wi, bx, n, m, g1, g2, g3, g4, g5, g6⟩ := h
  exact ⟨c, g, s, q, t, b0, b1, wi, bx, n, m, g1, g2, g3, g4, g5.more hm, g6.more hm⟩
theorem PolZ.still {w : World} {B p : Nat} {c : List Int} {key : List UInt8} (h : PolZ w B p c key) (hc : c.length = 20) (hk : key.length = 16) : Still w p := by
  obtain ⟨g, s, q, t, x0, x1, wi, bx, k, h1, h2, h3, h4, _⟩ := h.ex
  exact ⟨c, g, _, _, _, _, _, _, _, _, _, hc, hk, rfl, rfl, h2, h4⟩
theorem PolZ.more {w w' : World} {B p : Nat} {c : List Int} {key : List UInt8} (h : PolZ w B p c key) (hm : More w w') : PolZ w' B p c key := by
  obtain ⟨g, s, q, t, x0, x1, wi, bx, k, h1, h2, h3, h4, h5, h6, h7, h8, h9, h10, h11⟩ := h.ex
  have f : But p w w' := But.of_more hm
  exact ⟨h.ge, g, s, q, t, x0, x1, wi, bx, k, h1, h2.more hm, h3, h4.more hm, h5.but f (by omega), h6.but f (by omega), h7.but f (by omega), h8.but f (by omega), h9.but f (by omega), h10.but f (by omega), h11.but f (by omega)⟩
theorem PolZ.low {w : World} {B B' p : Nat} {c : List Int} {key : List UInt8} (h : PolZ w B p c key) (hB : B' ≤ B) : PolZ w B' p c key := ⟨by have := h.ge; omega, h.ex⟩
theorem gens_at {m : GensM} (h0 : m.k0.length = 16) (h1 : m.k1.length = 16) (k : Nat) : m.cells[33 + k]? = [.int .i64 m.old, .bool m.moving, .int .i64 m.moved, .int .i64 m.epoch][k]? := by
  unfold GensM.cells
  rw [show 33 + k = (16 + (16 + k)) + 1 by omega, List.getElem?_cons_succ, List.getElem?_append_right (by simp [h0]), List.length_map, h0, Nat.add_sub_cancel_left, List.getElem?_append_right (by simp [h1]), List.length_map, h1, Nat.add_sub_cancel_left]
theorem gens_moving (w : World) (g : Nat) (m : GensM) (h0 : m.k0.length = 16) (h1 : m.k1.length = 16) (hb : Blk w g 231 m.cells) :
    Ret Tryz.prog 77 #[.pointer (some ⟨g, 0, none⟩)] w fun v w' => v = .bool m.moving ∧ w' = w := by
  refine ret_of Tryz.func77 rfl (by kernel_rfl) (Nat.le_of_ble_eq_true (by kernel_rfl)) ?_
  have c1 : w.cell? ⟨g, 34, none⟩ = some (.bool m.moving) := by rw [hb.cell]; exact gens_at h0 h1 1
  simp (config := {maxSteps := 1000000, implicitDefEqProofs := false}) only [↓zvN, zvU, ↓up_apply, ↓hv_apply, ↓upO_some, ↓upO_none, ↓ev_tmp, ↓ev_const, ↓ev_func, ↓ev_global, init, Nat.reduceEqDiff, Nat.reduceAdd, Nat.reduceMul, Nat.reduceSub, ↓reduceIte, Int.reduceEq, Int.reduceNe, Nat.reduceLeDiff, one, Value.cells, Int.reduceLE, Int.reduceLT, Int.reduceToNat, add_mk, reduceCtorEq, List.mem_range'_1, true_and, and_true, and_false, false_and, Nat.reduceLT, Nat.reduceLeDiff, tyF, c1]
theorem step_still (w : World) (p : Nat) (h : Still w p) : Ret Tryz.prog 52 #[.pointer (some ⟨p, 0, none⟩)] w fun v w' => v = .tuple #[.int .i64 0, .bool false] ∧ w' = w := by
  obtain ⟨c, g, s, q, t, b0, b1, wi, bx, n, m, hc, g2, g3, g4, g5, g6⟩ := h
  refine ret_of Tryz.func52 rfl (by kernel_rfl) (Nat.le_of_ble_eq_true (by kernel_rfl)) ?_
  have c1 : w.cell? ⟨p, 20, none⟩ = some (ptrV g) := by rw [g5.cell]; exact pol_at hc _ _ _ _ _ _ _ _ _ 0
  simp (config := {maxSteps := 1000000, implicitDefEqProofs := false}) only [↓zvN, zvU, ↓up_apply, ↓hv_apply, ↓upO_some, ↓upO_none, ↓ev_tmp, ↓ev_const, ↓ev_func, ↓ev_global, init, Nat.reduceEqDiff, Nat.reduceAdd, Nat.reduceMul, Nat.reduceSub, ↓reduceIte, Int.reduceEq, Int.reduceNe, Nat.reduceLeDiff, one, Value.cells, Int.reduceLE, Int.reduceLT, Int.reduceToNat, add_mk, reduceCtorEq, List.mem_range'_1, true_and, and_true, and_false, false_and, Nat.reduceLT, Nat.reduceLeDiff, tyF, c1, ptrV]
  refine call_ok Tryz.call77 (gens_moving w g m g2 g3 g6) ?_
  rintro _ _ ⟨rfl, rfl⟩
  rw [g4]
  simp (config := {maxSteps := 1000000, implicitDefEqProofs := false}) only [↓zvN, zvU, ↓up_apply, ↓hv_apply, ↓upO_some, ↓upO_none, ↓ev_tmp, ↓ev_const, ↓ev_func, ↓ev_global, init, Nat.reduceEqDiff, Nat.reduceAdd, Nat.reduceMul, Nat.reduceSub, ↓reduceIte, Int.reduceEq, Int.reduceNe, Nat.reduceLeDiff, one, Value.cells, Int.reduceLE, Int.reduceLT, Int.reduceToNat, add_mk, reduceCtorEq, List.mem_range'_1, true_and, and_true, and_false, false_and, Nat.reduceLT, Nat.reduceLeDiff, tyF]
theorem ahead_still (w : World) (e s p : Nat) (now : Int) (st : List Int) (hb : Blk w e 75 (engCells s p now st)) (h : Still w p) : Ret Tryz.prog 26 #[.pointer (some ⟨e, 0, none⟩)] w fun v w' => v = .tuple #[] ∧ w' = w := by
  refine ret_of Tryz.func26 rfl (by kernel_rfl) (Nat.le_of_ble_eq_true (by kernel_rfl)) ?_
  have c1 : w.cell? ⟨e, 1, none⟩ = some (ptrV p) := by rw [hb.cell]; rfl
  simp (config := {maxSteps := 1000000, implicitDefEqProofs := false}) only [↓zvN, zvU, ↓up_apply, ↓hv_apply, ↓upO_some, ↓upO_none, ↓ev_tmp, ↓ev_const, ↓ev_func, ↓ev_global, init, Nat.reduceEqDiff, Nat.reduceAdd, Nat.reduceMul, Nat.reduceSub, ↓reduceIte, Int.reduceEq, Int.reduceNe, Nat.reduceLeDiff, one, Value.cells, Int.reduceLE, Int.reduceLT, Int.reduceToNat, add_mk, reduceCtorEq, List.mem_range'_1, true_and, and_true, and_false, false_and, Nat.reduceLT, Nat.reduceLeDiff, tyF, c1, ptrV]
  refine call_ok Tryz.call52 (step_still w p h) ?_
  rintro _ _ ⟨rfl, rfl⟩
  simp (config := {maxSteps := 1000000, implicitDefEqProofs := false}) only [↓zvN, zvU, ↓up_apply, ↓hv_apply, ↓upO_some, ↓upO_none, ↓ev_tmp, ↓ev_const, ↓ev_func, ↓ev_global, init, Nat.reduceEqDiff, Nat.reduceAdd, Nat.reduceMul, Nat.reduceSub, ↓reduceIte, Int.reduceEq, Int.reduceNe, Nat.reduceLeDiff, one, Value.cells, Int.reduceLE, Int.reduceLT, Int.reduceToNat, add_mk, reduceCtorEq, List.mem_range'_1, true_and, and_true, and_false, false_and, Nat.reduceLT, Nat.reduceLeDiff, tyF]
theorem refuse_no (w : World) (e s p : Nat) (now : Int) (st : List Int) (hs : st.length = 31) (hb : Blk w e 75 (engCells s p now st)) (no : Int) (hno : ¬ no = 0) :
    Ret Tryz.prog 25 #[.pointer (some ⟨e, 0, none⟩), .int .i64 no] w fun v w' => v = .int .i64 no ∧ Blk w' e 75 (engCells s p now (bump st 14 1)) ∧ But e w w' := by
  refine ret_of Tryz.func25 rfl (by kernel_rfl) (Nat.le_of_ble_eq_true (by kernel_rfl)) ?_
  simp (config := {maxSteps := 1000000, implicitDefEqProofs := false}) only [↓zvN, zvU, ↓up_apply, ↓hv_apply, ↓upO_some, ↓upO_none, ↓ev_tmp, ↓ev_const, ↓ev_func, ↓ev_global, init, Nat.reduceEqDiff, Nat.reduceAdd, Nat.reduceMul, Nat.reduceSub, ↓reduceIte, Int.reduceEq, Int.reduceNe, Nat.reduceLeDiff, one, Value.cells, Int.reduceLE, Int.reduceLT, Int.reduceToNat, add_mk, reduceCtorEq, List.mem_range'_1, true_and, and_true, and_false, false_and, Nat.reduceLT, Nat.reduceLeDiff, tyF, hno]
  refine call_ok Tryz.call28 (stats_addE w e s p now st 14 1 hs (by decide) hb) ?_
  rintro _ w1 ⟨rfl, hb1, hm1⟩
  simp (config := {maxSteps := 1000000, implicitDefEqProofs := false}) only [↓zvN, zvU, ↓up_apply, ↓hv_apply, ↓upO_some, ↓upO_none, ↓ev_tmp, ↓ev_const, ↓ev_func, ↓ev_global, init, Nat.reduceEqDiff, Nat.reduceAdd, Nat.reduceMul, Nat.reduceSub, ↓reduceIte, Int.reduceEq, Int.reduceNe, Nat.reduceLeDiff, one, Value.cells, Int.reduceLE, Int.reduceLT, Int.reduceToNat, add_mk, reduceCtorEq, List.mem_range'_1, true_and, and_true, and_false, false_and, Nat.reduceLT, Nat.reduceLeDiff, tyF]
  exact ⟨hb1, hm1⟩
theorem eng_clock (w : World) (e s p : Nat) (now : Int) (st : List Int) (t : Int) (hs : st.length = 31) (hb : Blk w e 75 (engCells s p now st)) :
    Ret Tryz.prog 9 #[.pointer (some ⟨e, 0, none⟩), .int .i64 t] w fun v w' => But e w w' ∧ (now ≤ t ∧ t ≤ 4611686018427387903 → v = .int .i64 0 ∧ Blk w' e 75 (engCells s p t st)) ∧ (¬ (now ≤ t ∧ t ≤ 4611686018427387903) → v = .int .i64 3 ∧ Blk w' e 75 (engCells s p now (bump st 14 1))) := by
  refine ret_of Tryz.func9 rfl (by kernel_rfl) (Nat.le_of_ble_eq_true (by kernel_rfl)) ?_
  have c2 : w.cell? ⟨e, 2, none⟩ = some (.int .i64 now) := by rw [hb.cell]; rfl
  simp (config := {maxSteps := 1000000, implicitDefEqProofs := false}) only [↓zvN, zvU, ↓up_apply, ↓hv_apply, ↓upO_some, ↓upO_none, ↓ev_tmp, ↓ev_const, ↓ev_func, ↓ev_global, init, Nat.reduceEqDiff, Nat.reduceAdd, Nat.reduceMul, Nat.reduceSub, ↓reduceIte, Int.reduceEq, Int.reduceNe, Nat.reduceLeDiff, one, Value.cells, Int.reduceLE, Int.reduceLT, Int.reduceToNat, add_mk, reduceCtorEq, List.mem_range'_1, true_and, and_true, and_false, false_and, Nat.reduceLT, Nat.reduceLeDiff, tyF, c2]
  refine ⟨fun h1 => ?_, fun h1 => ⟨fun h2 => ?_, fun h2 => ?_⟩⟩
  · refine call_ok Tryz.call25 (refuse_no w e s p now st hs hb 3 (by decide)) ?_
    rintro _ w1 ⟨rfl, hb1, hm1⟩
    simp (config := {maxSteps := 1000000, implicitDefEqProofs := false}) only [↓zvN, zvU, ↓up_apply, ↓hv_apply, ↓upO_some, ↓upO_none, ↓ev_tmp, ↓ev_const, ↓ev_func, ↓ev_global, init, Nat.reduceEqDiff, Nat.reduceAdd, Nat.reduceMul, Nat.reduceSub, ↓reduceIte, Int.reduceEq, Int.reduceNe, Nat.reduceLeDiff, one, Value.cells, Int.reduceLE, Int.reduceLT, Int.reduceToNat, add_mk, reduceCtorEq, List.mem_range'_1, true_and, and_true, and_false, false_and, Nat.reduceLT, Nat.reduceLeDiff, tyF]
    exact ⟨hm1, fun h => (by omega), fun _ => hb1⟩
  · refine call_ok Tryz.call25 (refuse_no w e s p now st hs hb 3 (by decide)) ?_
    rintro _ w1 ⟨rfl, hb1, hm1⟩
    simp (config := {maxSteps := 1000000, implicitDefEqProofs := false}) only [↓zvN, zvU, ↓up_apply, ↓hv_apply, ↓upO_some, ↓upO_none, ↓ev_tmp, ↓ev_const, ↓ev_func, ↓ev_global, init, Nat.reduceEqDiff, Nat.reduceAdd, Nat.reduceMul, Nat.reduceSub, ↓reduceIte, Int.reduceEq, Int.reduceNe, Nat.reduceLeDiff, one, Value.cells, Int.reduceLE, Int.reduceLT, Int.reduceToNat, add_mk, reduceCtorEq, List.mem_range'_1, true_and, and_true, and_false, false_and, Nat.reduceLT, Nat.reduceLeDiff, tyF]
    exact ⟨hm1, fun h => (by omega), fun _ => hb1⟩
  · refine st_cell (i := 2) hb (by rw [eng_len hs]; decide) rfl fun w1 k1 k2 => ?_
    rw [s2_undef]
    simp (config := {maxSteps := 1000000, implicitDefEqProofs := false}) only [↓zvN, zvU, ↓up_apply, ↓hv_apply, ↓upO_some, ↓upO_none, ↓ev_tmp, ↓ev_const, ↓ev_func, ↓ev_global, init, Nat.reduceEqDiff, Nat.reduceAdd, Nat.reduceMul, Nat.reduceSub, ↓reduceIte, Int.reduceEq, Int.reduceNe, Nat.reduceLeDiff, one, Value.cells, Int.reduceLE, Int.reduceLT, Int.reduceToNat, add_mk, reduceCtorEq, List.mem_range'_1, true_and, and_true, and_false, false_and, Nat.reduceLT, Nat.reduceLeDiff, tyF]
    exact ⟨But.of_wr k1, fun _ => k2, fun h => absurd ⟨h1, h2⟩ h⟩
theorem eng_now (w : World) (e s p : Nat) (now : Int) (st : List Int) (hb : Blk w e 75 (engCells s p now st)) :
    Ret Tryz.prog 10 #[.pointer (some ⟨e, 0, none⟩)] w fun v w' => v = .int .i64 now ∧ w' = w := by
  refine ret_of Tryz.func10 rfl (by kernel_rfl) (Nat.le_of_ble_eq_true (by kernel_rfl)) ?_
  have c2 : w.cell? ⟨e, 2, none⟩ = some (.int .i64 now) := by rw [hb.cell]; rfl
  simp (config := {maxSteps := 1000000, implicitDefEqProofs := false}) only [↓zvN, zvU, ↓up_apply, ↓hv_apply, ↓upO_some, ↓upO_none, ↓ev_tmp, ↓ev_const, ↓ev_func, ↓ev_global, init, Nat.reduceEqDiff, Nat.reduceAdd, Nat.reduceMul, Nat.reduceSub, ↓reduceIte, Int.reduceEq, Int.reduceNe, Nat.reduceLeDiff, one, Value.cells, Int.reduceLE, Int.reduceLT, Int.reduceToNat, add_mk, reduceCtorEq, List.mem_range'_1, true_and, and_true, and_false, false_and, Nat.reduceLT, Nat.reduceLeDiff, tyF, c2]
theorem zerStats : zer Tryz.prog 37 = some (.agg (ints (List.replicate 31 0)).toArray) := by rw [zer37]; rfl
theorem eng_stats (w : World) (e s p : Nat) (now : Int) (st : List Int) (hs : st.length = 31) (hb : Blk w e 75 (engCells s p now st)) :
    Ret Tryz.prog 11 #[.pointer (some ⟨e, 0, none⟩)] w fun v w' => v = .agg (ints st).toArray ∧ More w w' := by
  refine ret_of Tryz.func11 rfl (by kernel_rfl) (Nat.le_of_ble_eq_true (by kernel_rfl)) ?_
  have hm1 := more_alloc w (.cells (ints (List.replicate 31 0)).toArray 37)
  have hb1 := Blk.new w 37 (ints (List.replicate 31 0)).toArray
  simp (config := {maxSteps := 1000000, implicitDefEqProofs := false}) only [↓zvN, zvU, ↓up_apply, ↓hv_apply, ↓upO_some, ↓upO_none, ↓ev_tmp, ↓ev_const, ↓ev_func, ↓ev_global, init, Nat.reduceEqDiff, Nat.reduceAdd, Nat.reduceMul, Nat.reduceSub, ↓reduceIte, Int.reduceEq, Int.reduceNe, Nat.reduceLeDiff, one, Value.cells, Int.reduceLE, Int.reduceLT, Int.reduceToNat, add_mk, reduceCtorEq, List.mem_range'_1, true_and, and_true, and_false, false_and, Nat.reduceLT, Nat.reduceLeDiff, tyF, zerStats]
  obtain ⟨w1, hw1⟩ : ∃ w1, w.alloc (.cells (ints (List.replicate 31 0)).toArray 37) = w1 := ⟨_, rfl⟩
  rw [hw1] at hm1 hb1 ⊢
  clear hw1
  obtain ⟨y, hy⟩ : ∃ y, w.heap.size = y := ⟨_, rfl⟩
  rw [hy] at hb1 ⊢
  have l3 : ∀ K : Value → Prop, ldRow 31 ⟨e, 3, none⟩ w1 K = K (.agg (ints st).toArray) := fun K => by
    rw [(hb.more hm1).row_eq 3 31 (by rw [eng_len hs]; decide)]
    congr 2
    unfold engCells
    rw [List.drop_succ_cons, List.drop_succ_cons, List.drop_succ_cons, List.drop_zero, List.take_of_length_le (by rw [ints_len, hs]; decide)]
  simp (config := {maxSteps := 1000000, implicitDefEqProofs := false}) only [↓zvN, zvU, ↓up_apply, ↓hv_apply, ↓upO_some, ↓upO_none, ↓ev_tmp, ↓ev_const, ↓ev_func, ↓ev_global, init, Nat.reduceEqDiff, Nat.reduceAdd, Nat.reduceMul, Nat.reduceSub, ↓reduceIte, Int.reduceEq, Int.reduceNe, Nat.reduceLeDiff, one, Value.cells, Int.reduceLE, Int.reduceLT, Int.reduceToNat, add_mk, reduceCtorEq, List.mem_range'_1, true_and, and_true, and_false, false_and, Nat.reduceLT, Nat.reduceLeDiff, tyF, l3]
  refine st_all hb1 (by simp [ints_len, hs]) (by simp [ints]) (by simpa using ints_one st) fun w2 k1 k2 => ?_
  rw [s2_undef]
  rw [List.toList_toArray] at k2
  have l4 := k2.all_eq 31 (by rw [ints_len, hs])
  simp (config := {maxSteps := 1000000, implicitDefEqProofs := false}) only [↓zvN, zvU, ↓up_apply, ↓hv_apply, ↓upO_some, ↓upO_none, ↓ev_tmp, ↓ev_const, ↓ev_func, ↓ev_global, init, Nat.reduceEqDiff, Nat.reduceAdd, Nat.reduceMul, Nat.reduceSub, ↓reduceIte, Int.reduceEq, Int.reduceNe, Nat.reduceLeDiff, one, Value.cells, Int.reduceLE, Int.reduceLT, Int.reduceToNat, add_mk, reduceCtorEq, List.mem_range'_1, true_and, and_true, and_false, false_and, Nat.reduceLT, Nat.reduceLeDiff, tyF, l4]
  exact k1.below hm1 (by omega)
theorem sched_new (w : World) (c : List Int) (key : List UInt8) (hc : c.length = 20) (hk : key.length = 16) (hr : rightM c) : Ret Tryz.prog 23 #[.agg (ints c).toArray, .agg (key.map byteV).toArray] w fun v w' => More w w' ∧ ∃ s p y, v = .tuple #[.pointer (some ⟨s, 0, none⟩), .int .i64 0] ∧ w.heap.size ≤ s ∧ w.heap.size ≤ y ∧ Blk w' s 111 [ptrV p, ptrV y] ∧ Blk w' y 182 [.int .i64 (c.getD 11 0), .int .i64 0] ∧ PolZ w' w.heap.size p c key := by
  refine ret_of Tryz.func23 rfl (by kernel_rfl) (Nat.le_of_ble_eq_true (by kernel_rfl)) ?_
  simp (config := {maxSteps := 1000000, implicitDefEqProofs := false}) only [↓zvN, zvU, ↓up_apply, ↓hv_apply, ↓upO_some, ↓upO_none, ↓ev_tmp, ↓ev_const, ↓ev_func, ↓ev_global, init, Nat.reduceEqDiff, Nat.reduceAdd, Nat.reduceMul, Nat.reduceSub, ↓reduceIte, Int.reduceEq, Int.reduceNe, Nat.reduceLeDiff, one, Value.cells, Int.reduceLE, Int.reduceLT, Int.reduceToNat, add_mk, reduceCtorEq, List.mem_range'_1, true_and, and_true, and_false, false_and, Nat.reduceLT, Nat.reduceLeDiff, tyF]
  have hm1 := more_alloc w (.cells (ints c).toArray 29)
  have hC1 := Blk.new w 29 (ints c).toArray
  have s1 := size_alloc w (.cells (ints c).toArray 29)
  obtain ⟨w1, hw1⟩ : ∃ w1, w.alloc (.cells (ints c).toArray 29) = w1 := ⟨_, rfl⟩
  have hw1' := hw1
  rw [hw1] at hm1 hC1 s1 ⊢
  clear hw1
  rw [List.toList_toArray] at hC1
  have hm2 := more_alloc w1 (.cells (key.map byteV).toArray 31)
  have hK2 := Blk.new w1 31 (key.map byteV).toArray
  obtain ⟨w2, hw2⟩ : ∃ w2, w1.alloc (.cells (key.map byteV).toArray 31) = w2 := ⟨_, rfl⟩
  rw [hw2] at hm2 hK2 ⊢
  clear hw2
  rw [List.toList_toArray] at hK2
  obtain ⟨a, ha⟩ : ∃ a, w.heap.size = a := ⟨_, rfl⟩
  rw [ha] at hC1 s1 ⊢
  obtain ⟨y, hy⟩ : ∃ y, w1.heap.size = y := ⟨_, rfl⟩
  rw [← hw1'] at hy
  have hy' := hy
  rw [hw1'] at hy
  clear hw1'
  rw [hy] at hK2 s1
  have hC2 := hC1.more hm2
  have cl := hC2.all_eq 20 (by rw [ints_len, hc])
  have kl := hK2.all_eq 16 (by simp [hk])
  simp (config := {maxSteps := 1000000, implicitDefEqProofs := false}) only [↓zvN, zvU, ↓up_apply, ↓hv_apply, ↓upO_some, ↓upO_none, ↓ev_tmp, ↓ev_const, ↓ev_func, ↓ev_global, init, Nat.reduceEqDiff, Nat.reduceAdd, Nat.reduceMul, Nat.reduceSub, ↓reduceIte, Int.reduceEq, Int.reduceNe, Nat.reduceLeDiff, one, Value.cells, Int.reduceLE, Int.reduceLT, Int.reduceToNat, add_mk, reduceCtorEq, List.mem_range'_1, true_and, and_true, and_false, false_and, Nat.reduceLT, Nat.reduceLeDiff, tyF, cl, hy', kl]
  refine call_ok Tryz.call50 (police_new w2 c key hc hk hr) ?_
  rintro _ w3 ⟨hm3, p, rfl, hP3⟩
  have hC3 := hC2.more hm3
  have c11 : w3.cell? ⟨a, 11, none⟩ = some (.int .i64 (c.getD 11 0)) := by rw [hC3.cell]; exact ints_at (by omega)
  simp (config := {maxSteps := 1000000, implicitDefEqProofs := false}) only [↓zvN, zvU, ↓up_apply, ↓hv_apply, ↓upO_some, ↓upO_none, ↓ev_tmp, ↓ev_const, ↓ev_func, ↓ev_global, init, Nat.reduceEqDiff, Nat.reduceAdd, Nat.reduceMul, Nat.reduceSub, ↓reduceIte, Int.reduceEq, Int.reduceNe, Nat.reduceLeDiff, one, Value.cells, Int.reduceLE, Int.reduceLT, Int.reduceToNat, add_mk, reduceCtorEq, List.mem_range'_1, true_and, and_true, and_false, false_and, Nat.reduceLT, Nat.reduceLeDiff, tyF, c11]
  have hns := ((parts_right c).1 hr).2.2.2.1
  refine call_ok Tryz.call51 (pace_new w3 (c.getD 11 0) hns) ?_
  rintro _ w4 ⟨hm4, hyes⟩
  obtain ⟨q, rfl, hq, hQ4⟩ := hyes hns
  have b1 := build_of (P := Tryz.prog) (T := 111) (parts := #[(0, .pointer (some ⟨p, 0, none⟩)), (1, .pointer (some ⟨q, 0, none⟩))]) [ptrV p, ptrV q] (by kernel_rfl) zer111 (by kernel_rfl) w4
  simp (config := {maxSteps := 1000000, implicitDefEqProofs := false}) only [↓zvN, zvU, ↓up_apply, ↓hv_apply, ↓upO_some, ↓upO_none, ↓ev_tmp, ↓ev_const, ↓ev_func, ↓ev_global, init, Nat.reduceEqDiff, Nat.reduceAdd, Nat.reduceMul, Nat.reduceSub, ↓reduceIte, Int.reduceEq, Int.reduceNe, Nat.reduceLeDiff, one, Value.cells, Int.reduceLE, Int.reduceLT, Int.reduceToNat, add_mk, reduceCtorEq, List.mem_range'_1, true_and, and_true, and_false, false_and, Nat.reduceLT, Nat.reduceLeDiff, tyF, b1]
  have hm5 := more_alloc w4 (.cells #[ptrV p, ptrV q] 111)
  have z2 := hm2.size
  have z3 := hm3.size
  have z4 := hm4.size
  have hge := hP3.ge
  exact ⟨(((hm1.trans hm2).trans hm3).trans hm4).trans hm5, w4.heap.size, p, q, rfl, by omega, by omega, Blk.new _ _ _, hQ4.more hm5, ((hP3.more hm4).more hm5).low (by omega)⟩
theorem sched_police (w : World) (s p y : Nat) (hb : Blk w s 111 [ptrV p, ptrV y]) : Ret Tryz.prog 24 #[.pointer (some ⟨s, 0, none⟩)] w fun v w' => v = .pointer (some ⟨p, 0, none⟩) ∧ w' = w := by
  refine ret_of Tryz.func24 rfl (by kernel_rfl) (Nat.le_of_ble_eq_true (by kernel_rfl)) ?_
  have c0 : w.cell? ⟨s, 0, none⟩ = some (ptrV p) := by rw [hb.cell]; rfl
  simp (config := {maxSteps := 1000000, implicitDefEqProofs := false}) only [↓zvN, zvU, ↓up_apply, ↓hv_apply, ↓upO_some, ↓upO_none, ↓ev_tmp, ↓ev_const, ↓ev_func, ↓ev_global, init, Nat.reduceEqDiff, Nat.reduceAdd, Nat.reduceMul, Nat.reduceSub, ↓reduceIte, Int.reduceEq, Int.reduceNe, Nat.reduceLeDiff, one, Value.cells, Int.reduceLE, Int.reduceLT, Int.reduceToNat, add_mk, reduceCtorEq, List.mem_range'_1, true_and, and_true, and_false, false_and, Nat.reduceLT, Nat.reduceLeDiff, tyF, c0, ptrV]
/-- a new engine -/
structure EngZ (w : World) (B e s p y : Nat) (c : List Int) (key : List UInt8) : Prop where
  eng : Blk w e 75 (engCells s p 0 (List.replicate 31 0))
  sched : Blk w s 111 [ptrV p, ptrV y]
  pacer : Blk w y 182 [.int .i64 (c.getD 11 0), .int .i64 0]
  pol : PolZ w B p c key
  ge : B ≤ e ∧ B ≤ s ∧ B ≤ y
theorem engine_new (w : World) (c : List Int) (key : List UInt8) (hc : c.length = 20) (hk : key.length = 16) (hr : rightM c) : Ret Tryz.prog 7 #[.agg (ints c).toArray, .agg (key.map byteV).toArray] w fun v w' => More w w' ∧ ∃ e s p y, v = .tuple #[.pointer (some ⟨e, 0, none⟩), .int .i64 0] ∧ EngZ w' w.heap.size e s p y c key := by
  refine ret_of Tryz.func7 rfl (by kernel_rfl) (Nat.le_of_ble_eq_true (by kernel_rfl)) ?_
  simp (config := {maxSteps := 1000000, implicitDefEqProofs := false}) only [↓zvN, zvU, ↓up_apply, ↓hv_apply, ↓upO_some, ↓upO_none, ↓ev_tmp, ↓ev_const, ↓ev_func, ↓ev_global, init, Nat.reduceEqDiff, Nat.reduceAdd, Nat.reduceMul, Nat.reduceSub, ↓reduceIte, Int.reduceEq, Int.reduceNe, Nat.reduceLeDiff, one, Value.cells, Int.reduceLE, Int.reduceLT, Int.reduceToNat, add_mk, reduceCtorEq, List.mem_range'_1, true_and, and_true, and_false, false_and, Nat.reduceLT, Nat.reduceLeDiff, tyF]
  have hm1 := more_alloc w (.cells (ints c).toArray 29)
  have hC1 := Blk.new w 29 (ints c).toArray
  have s1 := size_alloc w (.cells (ints c).toArray 29)
  obtain ⟨w1, hw1⟩ : ∃ w1, w.alloc (.cells (ints c).toArray 29) = w1 := ⟨_, rfl⟩
  have hw1' := hw1
  rw [hw1] at hm1 hC1 s1 ⊢
  clear hw1
  rw [List.toList_toArray] at hC1
  have hm2 := more_alloc w1 (.cells (key.map byteV).toArray 31)
  have hK2 := Blk.new w1 31 (key.map byteV).toArray
  obtain ⟨w2, hw2⟩ : ∃ w2, w1.alloc (.cells (key.map byteV).toArray 31) = w2 := ⟨_, rfl⟩
  rw [hw2] at hm2 hK2 ⊢
  clear hw2
  rw [List.toList_toArray] at hK2
  obtain ⟨a, ha⟩ : ∃ a, w.heap.size = a := ⟨_, rfl⟩
  rw [ha] at hC1 s1 ⊢
  obtain ⟨y, hy⟩ : ∃ y, w1.heap.size = y := ⟨_, rfl⟩
  rw [← hw1'] at hy
  have hy' := hy
  rw [hw1'] at hy
  clear hw1'
  rw [hy] at hK2 s1
  have hC2 := hC1.more hm2
  have cl := hC2.all_eq 20 (by rw [ints_len, hc])
  have kl := hK2.all_eq 16 (by simp [hk])
  simp (config := {maxSteps := 1000000, implicitDefEqProofs := false}) only [↓zvN, zvU, ↓up_apply, ↓hv_apply, ↓upO_some, ↓upO_none, ↓ev_tmp, ↓ev_const, ↓ev_func, ↓ev_global, init, Nat.reduceEqDiff, Nat.reduceAdd, Nat.reduceMul, Nat.reduceSub, ↓reduceIte, Int.reduceEq, Int.reduceNe, Nat.reduceLeDiff, one, Value.cells, Int.reduceLE, Int.reduceLT, Int.reduceToNat, add_mk, reduceCtorEq, List.mem_range'_1, true_and, and_true, and_false, false_and, Nat.reduceLT, Nat.reduceLeDiff, tyF, cl, hy', kl]
  refine call_ok Tryz.call23 (sched_new w2 c key hc hk hr) ?_
  rintro _ w3 ⟨hm3, s, p, q, rfl, hs, hq, hS3, hY3, hP3⟩
  simp (config := {maxSteps := 1000000, implicitDefEqProofs := false}) only [↓zvN, zvU, ↓up_apply, ↓hv_apply, ↓upO_some, ↓upO_none, ↓ev_tmp, ↓ev_const, ↓ev_func, ↓ev_global, init, Nat.reduceEqDiff, Nat.reduceAdd, Nat.reduceMul, Nat.reduceSub, ↓reduceIte, Int.reduceEq, Int.reduceNe, Nat.reduceLeDiff, one, Value.cells, Int.reduceLE, Int.reduceLT, Int.reduceToNat, add_mk, reduceCtorEq, List.mem_range'_1, true_and, and_true, and_false, false_and, Nat.reduceLT, Nat.reduceLeDiff, tyF]
  refine call_ok Tryz.call24 (sched_police w3 s p q hS3) ?_
  rintro _ w4 ⟨rfl, rfl⟩
  have b1 := build_of (P := Tryz.prog) (T := 75) (parts := #[(0, .pointer (some ⟨s, 0, none⟩)), (1, .pointer (some ⟨p, 0, none⟩))]) (engCells s p 0 (List.replicate 31 0)) (by kernel_rfl) zer75 (by kernel_rfl) w4
  simp (config := {maxSteps := 1000000, implicitDefEqProofs := false}) only [↓zvN, zvU, ↓up_apply, ↓hv_apply, ↓upO_some, ↓upO_none, ↓ev_tmp, ↓ev_const, ↓ev_func, ↓ev_global, init, Nat.reduceEqDiff, Nat.reduceAdd, Nat.reduceMul, Nat.reduceSub, ↓reduceIte, Int.reduceEq, Int.reduceNe, Nat.reduceLeDiff, one, Value.cells, Int.reduceLE, Int.reduceLT, Int.reduceToNat, add_mk, reduceCtorEq, List.mem_range'_1, true_and, and_true, and_false, false_and, Nat.reduceLT, Nat.reduceLeDiff, tyF, b1]
  have hm5 := more_alloc w4 (.cells (engCells s p 0 (List.replicate 31 0)).toArray 75)
  have z2 := hm2.size
  have z3 := hm3.size
  have hge := hP3.ge
  exact ⟨((hm1.trans hm2).trans hm3).trans hm5, w4.heap.size, s, p, q, rfl, by simpa using Blk.new w4 75 (engCells s p 0 (List.replicate 31 0)).toArray, hS3.more hm5, hY3.more hm5, (hP3.more hm5).low (by omega), by omega, by omega, by omega⟩
theorem stats_N {st : List Int} (hs : st.length = 31) (w0 : World) (K : Value → Prop) : pureP Tryz.prog (Instr.field 37 (.agg (ints st).toArray) 0) K = K (.agg (ints (st.take 15)).toArray) := by
  refine pure_eq (fun w => ?_) w0 K
  unfold Instr.field
  rw [Sem.run_bind, run_un Tryz.underlying37]
  simp only [Result.andThen_ok, List.getElem?_toArray, List.getElem?_cons_succ, List.getElem?_cons_zero]
  have h := part_run (P := Tryz.prog) (n := 4) (T := 34) (pre := []) (a := ints (st.take 15)) (b := ints (st.drop 15)) (flat_ints Tryz.underlying34 Tryz.underlying2 cells2 (by rw [List.length_take, hs]; rfl)) (by rw [ints_len, List.length_take, hs, cells34]; rfl) w
  have htv : tv Tryz.prog 34 (ints (st.take 15)) = .agg (ints (st.take 15)).toArray := by unfold tv; rw [Tryz.underlying34]
  have hap : ints (st.take 15) ++ ints (st.drop 15) = ints st := by unfold ints; rw [← List.map_append, List.take_append_drop]
  rw [htv, List.nil_append, hap] at h
  rw [Sem.run_bind]
  simp only [asAgg, Sem.run_pure, Result.andThen_ok]
  exact h
theorem run_part_int {P : Program} {w : World} {e : TypeId} {k : IntKind} (he : P.underlying e = some (.int k)) {cs : Array Value} {j : Nat} {v : Value} (hv : cs[j]? = some v) : (part e cs j).run P w = .ok v w := by
  simp [part, isAgg, run_underlying he, hv]
theorem statsN_at {l : List Int} (hl : l.length = 15) (k : Nat) (hk : k < 15) (w0 : World) (K : Value → Prop) : pureP Tryz.prog (Instr.index 34 (.agg (ints l).toArray) (.int .i64 (k : Int))) K = K (.int .i64 (l.getD k 0)) := by
  refine pure_eq (fun w => ?_) w0 K
  unfold Instr.index
  rw [Sem.run_bind]
  simp only [asIntOf, Sem.run_pure, Result.andThen_ok]
  rw [Sem.run_bind, run_un Tryz.underlying34]
  simp only [Result.andThen_ok]
  rw [if_pos (by omega), Sem.run_bind, size_run Tryz.underlying2]
  simp only [Result.andThen_ok]
  rw [cells2, Int.toNat_natCast, Nat.mul_one]
  exact run_part_int Tryz.underlying2 (by rw [List.getElem?_toArray]; exact ints_at (by omega))
end Go.Proofs.YtahcaplhdgphcaaGreat
