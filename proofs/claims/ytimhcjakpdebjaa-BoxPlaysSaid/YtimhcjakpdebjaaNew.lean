/-
  What is made new: levels of bins, a window, a box, tokens.
-/
import Derived.Test.YtimhcjakpdebjaaCopy
import Derived.Test.YtimhcjakpdebjaaRw
import Derived.Test.YtimhcjakpdebjaaFlow
namespace Go.Proofs.Ytimhcjakpdebjaa
open Go Go.RowKit Go.Proofs.RV
set_option linter.unusedSimpArgs false
set_option linter.unusedVariables false
set_option maxRecDepth 10000
set_option maxHeartbeats 4000000

/-- a place of a table -/
structure PlaceM where
  state : Int
  p : PrefM
  v : List Value
def PlaceM.cells (x : PlaceM) : List Value := .int .i64 x.state :: (x.p.cells ++ x.v)
theorem placeE_box : ElemT Try.prog 139 (.agg (PlaceM.mk 0 prefZ [.int .i64 0, .pointer none]).cells.toArray) 11 32 := by unfold ElemT; kernel_rfl
def TableNewR_box (room : Int) (w : World) (v : Value) (w' : World) : Prop := More w w' ∧
    (1 ≤ room ∧ room ≤ 64 → ∃ (b p n : Nat), v = .tuple #[.pointer (some ⟨p, 0, none⟩), .int .i64 0] ∧ (n : Int) = 2 * room ∧ w.heap.size ≤ b ∧ b < p ∧ Blk w' b 139 ((List.replicate n (PlaceM.mk 0 prefZ [.int .i64 0, .pointer none])).flatMap PlaceM.cells) ∧
      Blk w' p 135 [.slice (some ⟨b, 0, none⟩) n n, .int .i64 room, .int .i64 0]) ∧
    (¬ (1 ≤ room ∧ room ≤ 64) → v = .tuple #[.pointer none, .int .i64 1])
theorem table_new_box (w : World) (room : Int) : Ret Try.prog 50 #[.int .i64 room] w (TableNewR_box room w) := by
  refine ret_of Try.func50 rfl (by kernel_rfl) (Nat.le_of_ble_eq_true (by kernel_rfl)) ?_
  simp (config := {maxSteps := 1000000}) only [↓zvD, zvU, ↓up_apply, ↓hv_apply, ↓upO_some, ↓upO_none, ↓ev_tmp, ↓ev_const, ↓ev_func, ↓ev_global, init, Nat.reduceEqDiff, Nat.reduceAdd, Nat.reduceMul, Nat.reduceSub, ↓reduceIte, Int.reduceEq, Int.reduceNe, Nat.reduceLeDiff, one, Value.cells, Int.reduceLE, Int.reduceLT, Int.reduceToNat, add_mk, reduceCtorEq, List.mem_range'_1, true_and, and_true, and_false, false_and, Nat.reduceLT, Nat.reduceLeDiff, tyF]
  refine ⟨fun h => ⟨More.refl _, fun ho => absurd ho.1 (by omega), fun _ => rfl⟩, fun h1 => ?_⟩
  refine ⟨fun h => ⟨More.refl _, fun ho => absurd ho.2 (by omega), fun _ => rfl⟩, fun h2 => ?_⟩
  obtain ⟨r, rfl⟩ := Int.eq_ofNat_of_zero_le (show 0 ≤ room by omega)
  have em : IntKind.i64.wrap (2 * (r : Int)) = ((2 * r : Nat) : Int) := by rw [show 2 * (r : Int) = ((2 * r : Nat) : Int) by simp]; exact w64 (by omega) (by omega)
  rw [em]
  refine mk_slice Try.underlying133 placeE_box (by omega) (by simp only [maxLen]; omega) ?_
  rw [show (Value.agg (PlaceM.mk 0 prefZ [.int .i64 0, .pointer none]).cells.toArray).cells = (PlaceM.mk 0 prefZ [.int .i64 0, .pointer none]).cells.toArray from rfl]
  have hm2 := more_alloc w (.cells (madeCells (PlaceM.mk 0 prefZ [.int .i64 0, .pointer none]).cells.toArray (2 * r * 11)) 139)
  have hb2 := Blk.new w 139 (madeCells (PlaceM.mk 0 prefZ [.int .i64 0, .pointer none]).cells.toArray (2 * r * 11))
  have s2 := size_alloc w (.cells (madeCells (PlaceM.mk 0 prefZ [.int .i64 0, .pointer none]).cells.toArray (2 * r * 11)) 139)
  rw [made_row (E := PlaceM.cells) (s := 11) (PlaceM.mk 0 prefZ [.int .i64 0, .pointer none]) rfl (by omega) _ rfl] at hb2
  generalize w.alloc (.cells (madeCells (PlaceM.mk 0 prefZ [.int .i64 0, .pointer none]).cells.toArray (2 * r * 11)) 139) = w2 at hm2 hb2 s2 ⊢
  simp (config := {maxSteps := 1000000}) only [↓zvD, zvU, ↓up_apply, ↓hv_apply, ↓upO_some, ↓upO_none, ↓ev_tmp, ↓ev_const, ↓ev_func, ↓ev_global, init, Nat.reduceEqDiff, Nat.reduceAdd, Nat.reduceMul, Nat.reduceSub, ↓reduceIte, Int.reduceEq, Int.reduceNe, Nat.reduceLeDiff, one, Value.cells, Int.reduceLE, Int.reduceLT, Int.reduceToNat, add_mk, reduceCtorEq, List.mem_range'_1, true_and, and_true, and_false, false_and, Nat.reduceLT, Nat.reduceLeDiff, tyF]
  rw [build_of [.slice (some ⟨w.heap.size, 0, none⟩) (2 * r) (2 * r), .int .i64 r, .int .i64 0] (by kernel_rfl) zer135 (by kernel_rfl) w2]
  simp (config := {maxSteps := 1000000}) only [↓zvD, zvU, ↓up_apply, ↓hv_apply, ↓upO_some, ↓upO_none, ↓ev_tmp, ↓ev_const, ↓ev_func, ↓ev_global, init, Nat.reduceEqDiff, Nat.reduceAdd, Nat.reduceMul, Nat.reduceSub, ↓reduceIte, Int.reduceEq, Int.reduceNe, Nat.reduceLeDiff, one, Value.cells, Int.reduceLE, Int.reduceLT, Int.reduceToNat, add_mk, reduceCtorEq, List.mem_range'_1, true_and, and_true, and_false, false_and, Nat.reduceLT, Nat.reduceLeDiff, tyF]
  have hm3 := more_alloc w2 (.cells #[.slice (some ⟨w.heap.size, 0, none⟩) (2 * r) (2 * r), .int .i64 r, .int .i64 0] 135)
  exact ⟨hm2.trans hm3, fun _ => ⟨w.heap.size, w2.heap.size, 2 * r, rfl, by simp, Nat.le_refl _, by omega, hb2.more hm3, Blk.new _ _ _⟩, fun hn => absurd ⟨h1, h2⟩ hn⟩
theorem placeE_int : ElemT Try.prog 95 (.agg (PlaceM.mk 0 prefZ [.int .i64 0]).cells.toArray) 10 24 := by unfold ElemT; kernel_rfl
def TableNewR_int (room : Int) (w : World) (v : Value) (w' : World) : Prop := More w w' ∧
    (1 ≤ room ∧ room ≤ 64 → ∃ (b p n : Nat), v = .tuple #[.pointer (some ⟨p, 0, none⟩), .int .i64 0] ∧ (n : Int) = 2 * room ∧ w.heap.size ≤ b ∧ b < p ∧ Blk w' b 95 ((List.replicate n (PlaceM.mk 0 prefZ [.int .i64 0])).flatMap PlaceM.cells) ∧
      Blk w' p 91 [.slice (some ⟨b, 0, none⟩) n n, .int .i64 room, .int .i64 0]) ∧
    (¬ (1 ≤ room ∧ room ≤ 64) → v = .tuple #[.pointer none, .int .i64 1])
theorem table_new_int (w : World) (room : Int) : Ret Try.prog 13 #[.int .i64 room] w (TableNewR_int room w) := by
  refine ret_of Try.func13 rfl (by kernel_rfl) (Nat.le_of_ble_eq_true (by kernel_rfl)) ?_
  simp (config := {maxSteps := 1000000}) only [↓zvD, zvU, ↓up_apply, ↓hv_apply, ↓upO_some, ↓upO_none, ↓ev_tmp, ↓ev_const, ↓ev_func, ↓ev_global, init, Nat.reduceEqDiff, Nat.reduceAdd, Nat.reduceMul, Nat.reduceSub, ↓reduceIte, Int.reduceEq, Int.reduceNe, Nat.reduceLeDiff, one, Value.cells, Int.reduceLE, Int.reduceLT, Int.reduceToNat, add_mk, reduceCtorEq, List.mem_range'_1, true_and, and_true, and_false, false_and, Nat.reduceLT, Nat.reduceLeDiff, tyF]
  refine ⟨fun h => ⟨More.refl _, fun ho => absurd ho.1 (by omega), fun _ => rfl⟩, fun h1 => ?_⟩
  refine ⟨fun h => ⟨More.refl _, fun ho => absurd ho.2 (by omega), fun _ => rfl⟩, fun h2 => ?_⟩
  obtain ⟨r, rfl⟩ := Int.eq_ofNat_of_zero_le (show 0 ≤ room by omega)
  have em : IntKind.i64.wrap (2 * (r : Int)) = ((2 * r : Nat) : Int) := by rw [show 2 * (r : Int) = ((2 * r : Nat) : Int) by simp]; exact w64 (by omega) (by omega)
  rw [em]
  refine mk_slice Try.underlying89 placeE_int (by omega) (by simp only [maxLen]; omega) ?_
  rw [show (Value.agg (PlaceM.mk 0 prefZ [.int .i64 0]).cells.toArray).cells = (PlaceM.mk 0 prefZ [.int .i64 0]).cells.toArray from rfl]
  have hm2 := more_alloc w (.cells (madeCells (PlaceM.mk 0 prefZ [.int .i64 0]).cells.toArray (2 * r * 10)) 95)
  have hb2 := Blk.new w 95 (madeCells (PlaceM.mk 0 prefZ [.int .i64 0]).cells.toArray (2 * r * 10))
  have s2 := size_alloc w (.cells (madeCells (PlaceM.mk 0 prefZ [.int .i64 0]).cells.toArray (2 * r * 10)) 95)
  rw [made_row (E := PlaceM.cells) (s := 10) (PlaceM.mk 0 prefZ [.int .i64 0]) rfl (by omega) _ rfl] at hb2
  generalize w.alloc (.cells (madeCells (PlaceM.mk 0 prefZ [.int .i64 0]).cells.toArray (2 * r * 10)) 95) = w2 at hm2 hb2 s2 ⊢
  simp (config := {maxSteps := 1000000}) only [↓zvD, zvU, ↓up_apply, ↓hv_apply, ↓upO_some, ↓upO_none, ↓ev_tmp, ↓ev_const, ↓ev_func, ↓ev_global, init, Nat.reduceEqDiff, Nat.reduceAdd, Nat.reduceMul, Nat.reduceSub, ↓reduceIte, Int.reduceEq, Int.reduceNe, Nat.reduceLeDiff, one, Value.cells, Int.reduceLE, Int.reduceLT, Int.reduceToNat, add_mk, reduceCtorEq, List.mem_range'_1, true_and, and_true, and_false, false_and, Nat.reduceLT, Nat.reduceLeDiff, tyF]
  rw [build_of [.slice (some ⟨w.heap.size, 0, none⟩) (2 * r) (2 * r), .int .i64 r, .int .i64 0] (by kernel_rfl) zer91 (by kernel_rfl) w2]
  simp (config := {maxSteps := 1000000}) only [↓zvD, zvU, ↓up_apply, ↓hv_apply, ↓upO_some, ↓upO_none, ↓ev_tmp, ↓ev_const, ↓ev_func, ↓ev_global, init, Nat.reduceEqDiff, Nat.reduceAdd, Nat.reduceMul, Nat.reduceSub, ↓reduceIte, Int.reduceEq, Int.reduceNe, Nat.reduceLeDiff, one, Value.cells, Int.reduceLE, Int.reduceLT, Int.reduceToNat, add_mk, reduceCtorEq, List.mem_range'_1, true_and, and_true, and_false, false_and, Nat.reduceLT, Nat.reduceLeDiff, tyF]
  have hm3 := more_alloc w2 (.cells #[.slice (some ⟨w.heap.size, 0, none⟩) (2 * r) (2 * r), .int .i64 r, .int .i64 0] 91)
  exact ⟨hm2.trans hm3, fun _ => ⟨w.heap.size, w2.heap.size, 2 * r, rfl, by simp, Nat.le_refl _, by omega, hb2.more hm3, Blk.new _ _ _⟩, fun hn => absurd ⟨h1, h2⟩ hn⟩
theorem placeE_string : ElemT Try.prog 102 (.agg (PlaceM.mk 0 prefZ [.string ⟨#[]⟩]).cells.toArray) 10 32 := by unfold ElemT; kernel_rfl
def TableNewR_string (room : Int) (w : World) (v : Value) (w' : World) : Prop := More w w' ∧
    (1 ≤ room ∧ room ≤ 64 → ∃ (b p n : Nat), v = .tuple #[.pointer (some ⟨p, 0, none⟩), .int .i64 0] ∧ (n : Int) = 2 * room ∧ w.heap.size ≤ b ∧ b < p ∧ Blk w' b 102 ((List.replicate n (PlaceM.mk 0 prefZ [.string ⟨#[]⟩])).flatMap PlaceM.cells) ∧
      Blk w' p 100 [.slice (some ⟨b, 0, none⟩) n n, .int .i64 room, .int .i64 0]) ∧
    (¬ (1 ≤ room ∧ room ≤ 64) → v = .tuple #[.pointer none, .int .i64 1])
theorem table_new_string (w : World) (room : Int) : Ret Try.prog 24 #[.int .i64 room] w (TableNewR_string room w) := by
  refine ret_of Try.func24 rfl (by kernel_rfl) (Nat.le_of_ble_eq_true (by kernel_rfl)) ?_
  simp (config := {maxSteps := 1000000}) only [↓zvD, zvU, ↓up_apply, ↓hv_apply, ↓upO_some, ↓upO_none, ↓ev_tmp, ↓ev_const, ↓ev_func, ↓ev_global, init, Nat.reduceEqDiff, Nat.reduceAdd, Nat.reduceMul, Nat.reduceSub, ↓reduceIte, Int.reduceEq, Int.reduceNe, Nat.reduceLeDiff, one, Value.cells, Int.reduceLE, Int.reduceLT, Int.reduceToNat, add_mk, reduceCtorEq, List.mem_range'_1, true_and, and_true, and_false, false_and, Nat.reduceLT, Nat.reduceLeDiff, tyF]
  refine ⟨fun h => ⟨More.refl _, fun ho => absurd ho.1 (by omega), fun _ => rfl⟩, fun h1 => ?_⟩
  refine ⟨fun h => ⟨More.refl _, fun ho => absurd ho.2 (by omega), fun _ => rfl⟩, fun h2 => ?_⟩
  obtain ⟨r, rfl⟩ := Int.eq_ofNat_of_zero_le (show 0 ≤ room by omega)
  have em : IntKind.i64.wrap (2 * (r : Int)) = ((2 * r : Nat) : Int) := by rw [show 2 * (r : Int) = ((2 * r : Nat) : Int) by simp]; exact w64 (by omega) (by omega)
  rw [em]
  refine mk_slice Try.underlying98 placeE_string (by omega) (by simp only [maxLen]; omega) ?_
  rw [show (Value.agg (PlaceM.mk 0 prefZ [.string ⟨#[]⟩]).cells.toArray).cells = (PlaceM.mk 0 prefZ [.string ⟨#[]⟩]).cells.toArray from rfl]
  have hm2 := more_alloc w (.cells (madeCells (PlaceM.mk 0 prefZ [.string ⟨#[]⟩]).cells.toArray (2 * r * 10)) 102)
  have hb2 := Blk.new w 102 (madeCells (PlaceM.mk 0 prefZ [.string ⟨#[]⟩]).cells.toArray (2 * r * 10))
  have s2 := size_alloc w (.cells (madeCells (PlaceM.mk 0 prefZ [.string ⟨#[]⟩]).cells.toArray (2 * r * 10)) 102)
  rw [made_row (E := PlaceM.cells) (s := 10) (PlaceM.mk 0 prefZ [.string ⟨#[]⟩]) rfl (by omega) _ rfl] at hb2
  generalize w.alloc (.cells (madeCells (PlaceM.mk 0 prefZ [.string ⟨#[]⟩]).cells.toArray (2 * r * 10)) 102) = w2 at hm2 hb2 s2 ⊢
  simp (config := {maxSteps := 1000000}) only [↓zvD, zvU, ↓up_apply, ↓hv_apply, ↓upO_some, ↓upO_none, ↓ev_tmp, ↓ev_const, ↓ev_func, ↓ev_global, init, Nat.reduceEqDiff, Nat.reduceAdd, Nat.reduceMul, Nat.reduceSub, ↓reduceIte, Int.reduceEq, Int.reduceNe, Nat.reduceLeDiff, one, Value.cells, Int.reduceLE, Int.reduceLT, Int.reduceToNat, add_mk, reduceCtorEq, List.mem_range'_1, true_and, and_true, and_false, false_and, Nat.reduceLT, Nat.reduceLeDiff, tyF]
  rw [build_of [.slice (some ⟨w.heap.size, 0, none⟩) (2 * r) (2 * r), .int .i64 r, .int .i64 0] (by kernel_rfl) zer100 (by kernel_rfl) w2]
  simp (config := {maxSteps := 1000000}) only [↓zvD, zvU, ↓up_apply, ↓hv_apply, ↓upO_some, ↓upO_none, ↓ev_tmp, ↓ev_const, ↓ev_func, ↓ev_global, init, Nat.reduceEqDiff, Nat.reduceAdd, Nat.reduceMul, Nat.reduceSub, ↓reduceIte, Int.reduceEq, Int.reduceNe, Nat.reduceLeDiff, one, Value.cells, Int.reduceLE, Int.reduceLT, Int.reduceToNat, add_mk, reduceCtorEq, List.mem_range'_1, true_and, and_true, and_false, false_and, Nat.reduceLT, Nat.reduceLeDiff, tyF]
  have hm3 := more_alloc w2 (.cells #[.slice (some ⟨w.heap.size, 0, none⟩) (2 * r) (2 * r), .int .i64 r, .int .i64 0] 100)
  exact ⟨hm2.trans hm3, fun _ => ⟨w.heap.size, w2.heap.size, 2 * r, rfl, by simp, Nat.le_refl _, by omega, hb2.more hm3, Blk.new _ _ _⟩, fun hn => absurd ⟨h1, h2⟩ hn⟩
def tokOk (rate burst : Int) : Prop := 0 ≤ rate ∧ rate ≤ 1073741824 ∧ 1 ≤ burst ∧ burst ≤ 1073741824
def TokNewR (rate burst : Int) (w : World) (v : Value) (w' : World) : Prop := More w w' ∧
    (tokOk rate burst → ∃ p : Nat, v = .tuple #[.pointer (some ⟨p, 0, none⟩), .int .i64 0] ∧ w.heap.size ≤ p ∧ Blk w' p 137 [.int .i64 rate, .int .i64 (burst * 1048576), .int .i64 (burst * 1048576), .int .i64 0]) ∧
    (¬ tokOk rate burst → v = .tuple #[.pointer none, .int .i64 1])
theorem shl20 (x : Int) : x * 2 ^ min 20 IntKind.i64.bits = x * 1048576 := by
  have : min 20 IntKind.i64.bits = 20 := by simp [IntKind.bits]
  rw [this]
  rfl
theorem token_new (w : World) (rate burst : Int) : Ret Try.prog 51 #[.int .i64 rate, .int .i64 burst] w (TokNewR rate burst w) := by
  refine ret_of Try.func51 rfl (by kernel_rfl) (Nat.le_of_ble_eq_true (by kernel_rfl)) ?_
  simp (config := {maxSteps := 1000000}) only [↓zvD, zvU, ↓up_apply, ↓hv_apply, ↓upO_some, ↓upO_none, ↓ev_tmp, ↓ev_const, ↓ev_func, ↓ev_global, init, Nat.reduceEqDiff, Nat.reduceAdd, Nat.reduceMul, Nat.reduceSub, ↓reduceIte, Int.reduceEq, Int.reduceNe, Nat.reduceLeDiff, one, Value.cells, Int.reduceLE, Int.reduceLT, Int.reduceToNat, add_mk, reduceCtorEq, List.mem_range'_1, true_and, and_true, and_false, false_and, Nat.reduceLT, Nat.reduceLeDiff, tyF]
  refine ⟨fun h => ⟨More.refl _, fun ho => absurd ho (by unfold tokOk; omega), fun _ => rfl⟩, fun h1 => ?_⟩
  refine ⟨fun h => ⟨More.refl _, fun ho => absurd ho (by unfold tokOk; omega), fun _ => rfl⟩, fun h2 => ?_⟩
  refine ⟨fun h => ⟨More.refl _, fun ho => absurd ho (by unfold tokOk; omega), fun _ => rfl⟩, fun h3 => ?_⟩
  refine ⟨fun h => ⟨More.refl _, fun ho => absurd ho (by unfold tokOk; omega), fun _ => rfl⟩, fun h4 => ?_⟩
  have es : IntKind.i64.wrap (burst * 1048576) = burst * 1048576 := w64 (by omega) (by omega)
  have hs := shl20 burst
  simp (config := {maxSteps := 1000000}) only [↓zvD, zvU, ↓up_apply, ↓hv_apply, ↓upO_some, ↓upO_none, ↓ev_tmp, ↓ev_const, ↓ev_func, ↓ev_global, init, Nat.reduceEqDiff, Nat.reduceAdd, Nat.reduceMul, Nat.reduceSub, ↓reduceIte, Int.reduceEq, Int.reduceNe, Nat.reduceLeDiff, one, Value.cells, Int.reduceLE, Int.reduceLT, Int.reduceToNat, add_mk, reduceCtorEq, List.mem_range'_1, true_and, and_true, and_false, false_and, Nat.reduceLT, Nat.reduceLeDiff, tyF, hs, es]
  rw [build_of [.int .i64 rate, .int .i64 (burst * 1048576), .int .i64 (burst * 1048576), .int .i64 0] (by kernel_rfl) zer137 (by kernel_rfl) w]
  simp (config := {maxSteps := 1000000}) only [↓zvD, zvU, ↓up_apply, ↓hv_apply, ↓upO_some, ↓upO_none, ↓ev_tmp, ↓ev_const, ↓ev_func, ↓ev_global, init, Nat.reduceEqDiff, Nat.reduceAdd, Nat.reduceMul, Nat.reduceSub, ↓reduceIte, Int.reduceEq, Int.reduceNe, Nat.reduceLeDiff, one, Value.cells, Int.reduceLE, Int.reduceLT, Int.reduceToNat, add_mk, reduceCtorEq, List.mem_range'_1, true_and, and_true, and_false, false_and, Nat.reduceLT, Nat.reduceLeDiff, tyF]
  exact ⟨more_alloc _ _, fun _ => ⟨w.heap.size, rfl, Nat.le_refl _, Blk.new _ _ _⟩, fun hn => absurd ⟨h1, h2, h3, h4⟩ hn⟩
def boxOk (room term rate burst : Int) : Prop := (1 ≤ room ∧ room ≤ 64) ∧ (1 ≤ term ∧ term ≤ 4611686018427387903) ∧ tokOk rate burst
def BoxNewR (room term rate burst : Int) (w : World) (v : Value) (w' : World) : Prop := More w w' ∧
    (boxOk room term rate burst → ∃ (b q p n : Nat), v = .tuple #[.pointer (some ⟨p, 0, none⟩), .int .i64 0] ∧ (n : Int) = 2 * room ∧ w.heap.size ≤ b ∧ b < q ∧ q < p ∧ Blk w' b 139 ((List.replicate n (PlaceM.mk 0 prefZ [.int .i64 0, .pointer none])).flatMap PlaceM.cells) ∧
      Blk w' q 135 [.slice (some ⟨b, 0, none⟩) n n, .int .i64 room, .int .i64 0] ∧ Blk w' p 112 [.pointer (some ⟨q, 0, none⟩), .int .i64 term, .int .i64 rate, .int .i64 burst]) ∧
    (¬ boxOk room term rate burst → v = .tuple #[.pointer none, .int .i64 1])
theorem box_new (w : World) (room term rate burst : Int) : Ret Try.prog 31 #[.int .i64 room, .int .i64 term, .int .i64 rate, .int .i64 burst] w (BoxNewR room term rate burst w) := by
  refine ret_of Try.func31 rfl (by kernel_rfl) (Nat.le_of_ble_eq_true (by kernel_rfl)) ?_
  simp (config := {maxSteps := 1000000}) only [↓zvD, zvU, ↓up_apply, ↓hv_apply, ↓upO_some, ↓upO_none, ↓ev_tmp, ↓ev_const, ↓ev_func, ↓ev_global, init, Nat.reduceEqDiff, Nat.reduceAdd, Nat.reduceMul, Nat.reduceSub, ↓reduceIte, Int.reduceEq, Int.reduceNe, Nat.reduceLeDiff, one, Value.cells, Int.reduceLE, Int.reduceLT, Int.reduceToNat, add_mk, reduceCtorEq, List.mem_range'_1, true_and, and_true, and_false, false_and, Nat.reduceLT, Nat.reduceLeDiff, tyF]
  refine call_ok Try.call50 (table_new_box w room) ?_
  rintro v w1 ⟨hm1, hyes, hno⟩
  by_cases hs : 1 ≤ room ∧ room ≤ 64
  · obtain ⟨b, q, n, rfl, hn, hb, hbq, hB, hQ⟩ := hyes hs
    have hQl := hQ.lt
    simp (config := {maxSteps := 1000000}) only [↓zvD, zvU, ↓up_apply, ↓hv_apply, ↓upO_some, ↓upO_none, ↓ev_tmp, ↓ev_const, ↓ev_func, ↓ev_global, init, Nat.reduceEqDiff, Nat.reduceAdd, Nat.reduceMul, Nat.reduceSub, ↓reduceIte, Int.reduceEq, Int.reduceNe, Nat.reduceLeDiff, one, Value.cells, Int.reduceLE, Int.reduceLT, Int.reduceToNat, add_mk, reduceCtorEq, List.mem_range'_1, true_and, and_true, and_false, false_and, Nat.reduceLT, Nat.reduceLeDiff, tyF]
    refine ⟨fun h => ⟨hm1, fun ho => absurd ho.2.1 (by omega), fun _ => rfl⟩, fun h1 => ?_⟩
    refine ⟨fun h => ⟨hm1, fun ho => absurd ho.2.1 (by omega), fun _ => rfl⟩, fun h2 => ?_⟩
    refine call_ok Try.call51 (token_new w1 rate burst) ?_
    rintro v w2 ⟨hm2, hyes2, hno2⟩
    have s2 := hm2.size
    by_cases ht : tokOk rate burst
    · obtain ⟨p, rfl, _, _⟩ := hyes2 ht
      simp (config := {maxSteps := 1000000}) only [↓zvD, zvU, ↓up_apply, ↓hv_apply, ↓upO_some, ↓upO_none, ↓ev_tmp, ↓ev_const, ↓ev_func, ↓ev_global, init, Nat.reduceEqDiff, Nat.reduceAdd, Nat.reduceMul, Nat.reduceSub, ↓reduceIte, Int.reduceEq, Int.reduceNe, Nat.reduceLeDiff, one, Value.cells, Int.reduceLE, Int.reduceLT, Int.reduceToNat, add_mk, reduceCtorEq, List.mem_range'_1, true_and, and_true, and_false, false_and, Nat.reduceLT, Nat.reduceLeDiff, tyF]
      rw [build_of [.pointer (some ⟨q, 0, none⟩), .int .i64 term, .int .i64 rate, .int .i64 burst] (by kernel_rfl) zer112 (by kernel_rfl) w2]
      simp (config := {maxSteps := 1000000}) only [↓zvD, zvU, ↓up_apply, ↓hv_apply, ↓upO_some, ↓upO_none, ↓ev_tmp, ↓ev_const, ↓ev_func, ↓ev_global, init, Nat.reduceEqDiff, Nat.reduceAdd, Nat.reduceMul, Nat.reduceSub, ↓reduceIte, Int.reduceEq, Int.reduceNe, Nat.reduceLeDiff, one, Value.cells, Int.reduceLE, Int.reduceLT, Int.reduceToNat, add_mk, reduceCtorEq, List.mem_range'_1, true_and, and_true, and_false, false_and, Nat.reduceLT, Nat.reduceLeDiff, tyF]
      have hm3 := more_alloc w2 (.cells #[.pointer (some ⟨q, 0, none⟩), .int .i64 term, .int .i64 rate, .int .i64 burst] 112)
      exact ⟨(hm1.trans hm2).trans hm3, fun _ => ⟨b, q, w2.heap.size, n, rfl, hn, hb, hbq, by omega, hB.more (hm2.trans hm3), hQ.more (hm2.trans hm3), Blk.new _ _ _⟩, fun hn => absurd ⟨hs, ⟨h1, h2⟩, ht⟩ hn⟩
    · obtain rfl := hno2 ht
      simp (config := {maxSteps := 1000000}) only [↓zvD, zvU, ↓up_apply, ↓hv_apply, ↓upO_some, ↓upO_none, ↓ev_tmp, ↓ev_const, ↓ev_func, ↓ev_global, init, Nat.reduceEqDiff, Nat.reduceAdd, Nat.reduceMul, Nat.reduceSub, ↓reduceIte, Int.reduceEq, Int.reduceNe, Nat.reduceLeDiff, one, Value.cells, Int.reduceLE, Int.reduceLT, Int.reduceToNat, add_mk, reduceCtorEq, List.mem_range'_1, true_and, and_true, and_false, false_and, Nat.reduceLT, Nat.reduceLeDiff, tyF]
      exact ⟨hm1.trans hm2, fun h => absurd h.2.2 ht, fun _ => rfl⟩
  · obtain rfl := hno hs
    simp (config := {maxSteps := 1000000}) only [↓zvD, zvU, ↓up_apply, ↓hv_apply, ↓upO_some, ↓upO_none, ↓ev_tmp, ↓ev_const, ↓ev_func, ↓ev_global, init, Nat.reduceEqDiff, Nat.reduceAdd, Nat.reduceMul, Nat.reduceSub, ↓reduceIte, Int.reduceEq, Int.reduceNe, Nat.reduceLeDiff, one, Value.cells, Int.reduceLE, Int.reduceLT, Int.reduceToNat, add_mk, reduceCtorEq, List.mem_range'_1, true_and, and_true, and_false, false_and, Nat.reduceLT, Nat.reduceLeDiff, tyF]
    exact ⟨hm1, fun h => absurd h.1 hs, fun _ => rfl⟩
end Go.Proofs.Ytimhcjakpdebjaa
