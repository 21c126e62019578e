/-
  Layer 11: the reference's ports, and the statements.
-/
import Derived.Test.YtbknfmaefmbfdaaPorts
namespace Go.Proofs.Ytbknfmaefmbfdaa
open Go Go.RowKit Go.Proofs.RV
set_option linter.unusedSimpArgs false
set_option linter.unusedVariables false
set_option maxRecDepth 10000
set_option maxHeartbeats 2000000

def RefPortsR (v6 : Bool) (n : NetM) (w : World) (v : Value) (w' : World) : Prop := v = .tuple #[.int .i64 (portsM v6 n).1, .int .i64 (portsM v6 n).2.1, .int .i64 (portsM v6 n).2.2] ∧ More w w'
theorem ref_ports (w : World) (v6 : Bool) (n : NetM) (A : Option Addr) (c : Nat) (hn : n.Fit) (hA : Bs w A n.body) (hl : n.body.length ≤ 1000000) :
    Ret Try.prog 68 #[.bool v6, .agg (n.cells A c).toArray] w (RefPortsR v6 n w) := by
  refine ret_of Try.func68 rfl (by kernel_rfl) (Nat.le_of_ble_eq_true (by kernel_rfl)) ?_
  have hm1 := more_alloc w (.cells (n.cells A c).toArray 121)
  have hb1 := Blk.new w 121 (n.cells A c).toArray
  have hA1 := hA.more hm1
  simp (config := {maxSteps := 1000000}) only [↓zvD, zvU, ↓up_apply, ↓hv_apply, ↓upO_some, ↓upO_none, ↓ev_tmp, ↓ev_const, ↓ev_func, ↓ev_global, init, Nat.reduceEqDiff, Nat.reduceAdd, Nat.reduceMul, Nat.reduceSub, ↓reduceIte, Int.reduceEq, Int.reduceNe, Nat.reduceLeDiff, one, Value.cells, Int.reduceLE, Int.reduceLT, Int.reduceToNat, add_mk, reduceCtorEq, tyF]
  generalize w.alloc (.cells (n.cells A c).toArray 121) = w1 at hm1 hb1 hA1 ⊢
  have by2 : 2 ≤ n.body.length → ∃ a, A = some a ∧ a.block < w1.heap.size ∧ w1.cell? (a.add 0) = some (.int .u8 (bt n.body 0)) ∧ w1.cell? (a.add 1) = some (.int .u8 (bt n.body 1)) := fun h => by
    obtain ⟨a, rfl⟩ := hA1.isAt (by omega)
    exact ⟨a, rfl, hA1.blk_lt (by omega), hA1.cellN (by omega), hA1.cellN (by omega)⟩
  have e01 : IntKind.i64.wrap (IntKind.i64.wrap (IntKind.i64.wrap (bt n.body 0) * 256) + IntKind.i64.wrap (bt n.body 1)) = two n.body 0 := by
    have := bt_nonneg n.body 0; have := bt_lt n.body 0; have := bt_nonneg n.body 1; have := bt_lt n.body 1
    rw [w64_byte, w64_byte, w64 (x := bt n.body 0 * 256) (by omega) (by omega), w64 (by omega) (by omega)]
    rfl
  have e23 : IntKind.i64.wrap (IntKind.i64.wrap (IntKind.i64.wrap (bt n.body 2) * 256) + IntKind.i64.wrap (bt n.body 3)) = two n.body 2 := by
    have := bt_nonneg n.body 2; have := bt_lt n.body 2; have := bt_nonneg n.body 3; have := bt_lt n.body 3
    rw [w64_byte, w64_byte, w64 (x := bt n.body 2 * 256) (by omega) (by omega), w64 (by omega) (by omega)]
    rfl
  rcases proto_cases v6 n with h | ⟨hf, ⟨h, rfl | rfl⟩ | ⟨h, rfl | rfl⟩ | ⟨rfl, h⟩ | ⟨rfl, h⟩ | ⟨h1, h2, ⟨rfl, h3⟩ | ⟨rfl, h3⟩⟩⟩
  · have e : portsM v6 n = (0, 0, 0) := by unfold portsM; rw [if_pos h]
    unfold RefPortsR
    rw [e]
    cases v6 <;> simp (config := {maxSteps := 1000000}) only [↓zvD, zvU, ↓up_apply, ↓hv_apply, ↓upO_some, ↓upO_none, ↓ev_tmp, ↓ev_const, ↓ev_func, ↓ev_global, init, Nat.reduceEqDiff, Nat.reduceAdd, Nat.reduceMul, Nat.reduceSub, ↓reduceIte, Int.reduceEq, Int.reduceNe, Nat.reduceLeDiff, one, Value.cells, Int.reduceLE, Int.reduceLT, Int.reduceToNat, add_mk, reduceCtorEq, tyF, hb1.cell, NetM.c0, NetM.cBody hn, NetM.cFirst hn, h, hm1, ite_self]
  · simp (config := {maxSteps := 1000000}) only [↓zvD, zvU, ↓up_apply, ↓hv_apply, ↓upO_some, ↓upO_none, ↓ev_tmp, ↓ev_const, ↓ev_func, ↓ev_global, init, Nat.reduceEqDiff, Nat.reduceAdd, Nat.reduceMul, Nat.reduceSub, ↓reduceIte, Int.reduceEq, Int.reduceNe, Nat.reduceLeDiff, one, Value.cells, Int.reduceLE, Int.reduceLT, Int.reduceToNat, add_mk, reduceCtorEq, tyF, hb1.cell, NetM.c0, NetM.cBody hn, NetM.cFirst hn, h, hf, h]
    refine ⟨fun h4 => ?_, fun h4 => ?_⟩
    · exact ⟨by simp [portsM, twoPorts, onePort, h, hf, show n.body.length < 4 by omega], hm1⟩
    obtain ⟨a, rfl, hab, c0, c1⟩ := by2 (by omega)
    have c2 := hA1.cellN (i := 2) (by omega)
    have c3 := hA1.cellN (i := 3) (by omega)
    have g0 : (0 : Int) < n.body.length := by omega
    have g1 : (1 : Int) < n.body.length := by omega
    have g2 : (2 : Int) < n.body.length := by omega
    have g3 : (3 : Int) < n.body.length := by omega
    refine draw_calm mixed (by kernel_rfl) ?_
    simp (config := {maxSteps := 1000000}) only [↓zvD, zvU, ↓zqD, ↓up_apply, ↓hv_apply, ↓upO_some, ↓upO_none, ↓ev_tmp, ↓ev_const, ↓ev_func, ↓ev_global, init, Nat.reduceEqDiff, Nat.reduceAdd, Nat.reduceMul, Nat.reduceSub, ↓reduceIte, Int.reduceEq, Int.reduceNe, Nat.reduceLeDiff, one, Value.cells, Int.reduceLE, Int.reduceLT, Int.reduceToNat, add_mk, reduceCtorEq, tyF, c0, c1, c2, c3, g0, g1, g2, g3, hab, add_block, e01, e23, h]
    intro w2 hm2
    exact ⟨by simp [portsM, twoPorts, onePort, h, hf, show ¬ n.body.length < 4 by omega], hm1.trans hm2⟩
  · simp (config := {maxSteps := 1000000}) only [↓zvD, zvU, ↓up_apply, ↓hv_apply, ↓upO_some, ↓upO_none, ↓ev_tmp, ↓ev_const, ↓ev_func, ↓ev_global, init, Nat.reduceEqDiff, Nat.reduceAdd, Nat.reduceMul, Nat.reduceSub, ↓reduceIte, Int.reduceEq, Int.reduceNe, Nat.reduceLeDiff, one, Value.cells, Int.reduceLE, Int.reduceLT, Int.reduceToNat, add_mk, reduceCtorEq, tyF, hb1.cell, NetM.c0, NetM.cBody hn, NetM.cFirst hn, h, hf, h]
    refine ⟨fun h4 => ?_, fun h4 => ?_⟩
    · exact ⟨by simp [portsM, twoPorts, onePort, h, hf, show n.body.length < 4 by omega], hm1⟩
    obtain ⟨a, rfl, hab, c0, c1⟩ := by2 (by omega)
    have c2 := hA1.cellN (i := 2) (by omega)
    have c3 := hA1.cellN (i := 3) (by omega)
    have g0 : (0 : Int) < n.body.length := by omega
    have g1 : (1 : Int) < n.body.length := by omega
    have g2 : (2 : Int) < n.body.length := by omega
    have g3 : (3 : Int) < n.body.length := by omega
    refine draw_calm mixed (by kernel_rfl) ?_
    simp (config := {maxSteps := 1000000}) only [↓zvD, zvU, ↓zqD, ↓up_apply, ↓hv_apply, ↓upO_some, ↓upO_none, ↓ev_tmp, ↓ev_const, ↓ev_func, ↓ev_global, init, Nat.reduceEqDiff, Nat.reduceAdd, Nat.reduceMul, Nat.reduceSub, ↓reduceIte, Int.reduceEq, Int.reduceNe, Nat.reduceLeDiff, one, Value.cells, Int.reduceLE, Int.reduceLT, Int.reduceToNat, add_mk, reduceCtorEq, tyF, c0, c1, c2, c3, g0, g1, g2, g3, hab, add_block, e01, e23, h]
    intro w2 hm2
    exact ⟨by simp [portsM, twoPorts, onePort, h, hf, show ¬ n.body.length < 4 by omega], hm1.trans hm2⟩
  · simp (config := {maxSteps := 1000000}) only [↓zvD, zvU, ↓up_apply, ↓hv_apply, ↓upO_some, ↓upO_none, ↓ev_tmp, ↓ev_const, ↓ev_func, ↓ev_global, init, Nat.reduceEqDiff, Nat.reduceAdd, Nat.reduceMul, Nat.reduceSub, ↓reduceIte, Int.reduceEq, Int.reduceNe, Nat.reduceLeDiff, one, Value.cells, Int.reduceLE, Int.reduceLT, Int.reduceToNat, add_mk, reduceCtorEq, tyF, hb1.cell, NetM.c0, NetM.cBody hn, NetM.cFirst hn, h, hf, h]
    refine ⟨fun h4 => ?_, fun h4 => ?_⟩
    · exact ⟨by simp [portsM, twoPorts, onePort, h, hf, show n.body.length < 4 by omega], hm1⟩
    obtain ⟨a, rfl, hab, c0, c1⟩ := by2 (by omega)
    have c2 := hA1.cellN (i := 2) (by omega)
    have c3 := hA1.cellN (i := 3) (by omega)
    have g0 : (0 : Int) < n.body.length := by omega
    have g1 : (1 : Int) < n.body.length := by omega
    have g2 : (2 : Int) < n.body.length := by omega
    have g3 : (3 : Int) < n.body.length := by omega
    refine draw_calm mixed (by kernel_rfl) ?_
    simp (config := {maxSteps := 1000000}) only [↓zvD, zvU, ↓zqD, ↓up_apply, ↓hv_apply, ↓upO_some, ↓upO_none, ↓ev_tmp, ↓ev_const, ↓ev_func, ↓ev_global, init, Nat.reduceEqDiff, Nat.reduceAdd, Nat.reduceMul, Nat.reduceSub, ↓reduceIte, Int.reduceEq, Int.reduceNe, Nat.reduceLeDiff, one, Value.cells, Int.reduceLE, Int.reduceLT, Int.reduceToNat, add_mk, reduceCtorEq, tyF, c0, c1, c2, c3, g0, g1, g2, g3, hab, add_block, e01, e23, h]
    intro w2 hm2
    exact ⟨by simp [portsM, twoPorts, onePort, h, hf, show ¬ n.body.length < 4 by omega], hm1.trans hm2⟩
  · simp (config := {maxSteps := 1000000}) only [↓zvD, zvU, ↓up_apply, ↓hv_apply, ↓upO_some, ↓upO_none, ↓ev_tmp, ↓ev_const, ↓ev_func, ↓ev_global, init, Nat.reduceEqDiff, Nat.reduceAdd, Nat.reduceMul, Nat.reduceSub, ↓reduceIte, Int.reduceEq, Int.reduceNe, Nat.reduceLeDiff, one, Value.cells, Int.reduceLE, Int.reduceLT, Int.reduceToNat, add_mk, reduceCtorEq, tyF, hb1.cell, NetM.c0, NetM.cBody hn, NetM.cFirst hn, h, hf, h]
    refine ⟨fun h4 => ?_, fun h4 => ?_⟩
    · exact ⟨by simp [portsM, twoPorts, onePort, h, hf, show n.body.length < 4 by omega], hm1⟩
    obtain ⟨a, rfl, hab, c0, c1⟩ := by2 (by omega)
    have c2 := hA1.cellN (i := 2) (by omega)
    have c3 := hA1.cellN (i := 3) (by omega)
    have g0 : (0 : Int) < n.body.length := by omega
    have g1 : (1 : Int) < n.body.length := by omega
    have g2 : (2 : Int) < n.body.length := by omega
    have g3 : (3 : Int) < n.body.length := by omega
    refine draw_calm mixed (by kernel_rfl) ?_
    simp (config := {maxSteps := 1000000}) only [↓zvD, zvU, ↓zqD, ↓up_apply, ↓hv_apply, ↓upO_some, ↓upO_none, ↓ev_tmp, ↓ev_const, ↓ev_func, ↓ev_global, init, Nat.reduceEqDiff, Nat.reduceAdd, Nat.reduceMul, Nat.reduceSub, ↓reduceIte, Int.reduceEq, Int.reduceNe, Nat.reduceLeDiff, one, Value.cells, Int.reduceLE, Int.reduceLT, Int.reduceToNat, add_mk, reduceCtorEq, tyF, c0, c1, c2, c3, g0, g1, g2, g3, hab, add_block, e01, e23, h]
    intro w2 hm2
    exact ⟨by simp [portsM, twoPorts, onePort, h, hf, show ¬ n.body.length < 4 by omega], hm1.trans hm2⟩
  · simp (config := {maxSteps := 1000000}) only [↓zvD, zvU, ↓up_apply, ↓hv_apply, ↓upO_some, ↓upO_none, ↓ev_tmp, ↓ev_const, ↓ev_func, ↓ev_global, init, Nat.reduceEqDiff, Nat.reduceAdd, Nat.reduceMul, Nat.reduceSub, ↓reduceIte, Int.reduceEq, Int.reduceNe, Nat.reduceLeDiff, one, Value.cells, Int.reduceLE, Int.reduceLT, Int.reduceToNat, add_mk, reduceCtorEq, tyF, hb1.cell, NetM.c0, NetM.cBody hn, NetM.cFirst hn, h, hf, h]
    refine ⟨fun h4 => ?_, fun h4 => ?_⟩
    · exact ⟨fun _ => ⟨by simp [portsM, twoPorts, onePort, h, hf, show n.body.length < 2 by omega], hm1⟩, fun h5 => absurd h5 (by omega)⟩
    obtain ⟨a, rfl, hab, c0, c1⟩ := by2 (by omega)
    have g0 : (0 : Int) < n.body.length := by omega
    have g1 : (1 : Int) < n.body.length := by omega
    refine draw_calm mixed (by kernel_rfl) ?_
    simp (config := {maxSteps := 1000000}) only [↓zvD, zvU, ↓zqD, ↓up_apply, ↓hv_apply, ↓upO_some, ↓upO_none, ↓ev_tmp, ↓ev_const, ↓ev_func, ↓ev_global, init, Nat.reduceEqDiff, Nat.reduceAdd, Nat.reduceMul, Nat.reduceSub, ↓reduceIte, Int.reduceEq, Int.reduceNe, Nat.reduceLeDiff, one, Value.cells, Int.reduceLE, Int.reduceLT, Int.reduceToNat, add_mk, reduceCtorEq, tyF, c0, c1, g0, g1, hab, add_block, e01, h]
    intro w2 hm2
    exact ⟨by simp [portsM, twoPorts, onePort, h, hf, show ¬ n.body.length < 2 by omega], hm1.trans hm2⟩
  · simp (config := {maxSteps := 1000000}) only [↓zvD, zvU, ↓up_apply, ↓hv_apply, ↓upO_some, ↓upO_none, ↓ev_tmp, ↓ev_const, ↓ev_func, ↓ev_global, init, Nat.reduceEqDiff, Nat.reduceAdd, Nat.reduceMul, Nat.reduceSub, ↓reduceIte, Int.reduceEq, Int.reduceNe, Nat.reduceLeDiff, one, Value.cells, Int.reduceLE, Int.reduceLT, Int.reduceToNat, add_mk, reduceCtorEq, tyF, hb1.cell, NetM.c0, NetM.cBody hn, NetM.cFirst hn, h, hf, h]
    refine ⟨fun h4 => ?_, fun h4 => ?_⟩
    · exact ⟨fun _ => ⟨by simp [portsM, twoPorts, onePort, h, hf, show n.body.length < 2 by omega], hm1⟩, fun h5 => absurd h5 (by omega)⟩
    obtain ⟨a, rfl, hab, c0, c1⟩ := by2 (by omega)
    have g0 : (0 : Int) < n.body.length := by omega
    have g1 : (1 : Int) < n.body.length := by omega
    refine draw_calm mixed (by kernel_rfl) ?_
    simp (config := {maxSteps := 1000000}) only [↓zvD, zvU, ↓zqD, ↓up_apply, ↓hv_apply, ↓upO_some, ↓upO_none, ↓ev_tmp, ↓ev_const, ↓ev_func, ↓ev_global, init, Nat.reduceEqDiff, Nat.reduceAdd, Nat.reduceMul, Nat.reduceSub, ↓reduceIte, Int.reduceEq, Int.reduceNe, Nat.reduceLeDiff, one, Value.cells, Int.reduceLE, Int.reduceLT, Int.reduceToNat, add_mk, reduceCtorEq, tyF, c0, c1, g0, g1, hab, add_block, e01, h]
    intro w2 hm2
    exact ⟨by simp [portsM, twoPorts, onePort, h, hf, show ¬ n.body.length < 2 by omega], hm1.trans hm2⟩
  · simp (config := {maxSteps := 1000000}) only [↓zvD, zvU, ↓up_apply, ↓hv_apply, ↓upO_some, ↓upO_none, ↓ev_tmp, ↓ev_const, ↓ev_func, ↓ev_global, init, Nat.reduceEqDiff, Nat.reduceAdd, Nat.reduceMul, Nat.reduceSub, ↓reduceIte, Int.reduceEq, Int.reduceNe, Nat.reduceLeDiff, one, Value.cells, Int.reduceLE, Int.reduceLT, Int.reduceToNat, add_mk, reduceCtorEq, tyF, hb1.cell, NetM.c0, NetM.cBody hn, NetM.cFirst hn, h1, h2, h3, hf, h1]
    exact ⟨by simp [portsM, twoPorts, onePort, h1, h2, h3, hf], hm1⟩
  · simp (config := {maxSteps := 1000000}) only [↓zvD, zvU, ↓up_apply, ↓hv_apply, ↓upO_some, ↓upO_none, ↓ev_tmp, ↓ev_const, ↓ev_func, ↓ev_global, init, Nat.reduceEqDiff, Nat.reduceAdd, Nat.reduceMul, Nat.reduceSub, ↓reduceIte, Int.reduceEq, Int.reduceNe, Nat.reduceLeDiff, one, Value.cells, Int.reduceLE, Int.reduceLT, Int.reduceToNat, add_mk, reduceCtorEq, tyF, hb1.cell, NetM.c0, NetM.cBody hn, NetM.cFirst hn, h1, h2, h3, hf, h1]
    exact ⟨by simp [portsM, twoPorts, onePort, h1, h2, h3, hf], hm1⟩

theorem portsM_range (v6 : Bool) (n : NetM) : (0 ≤ (portsM v6 n).1 ∧ (portsM v6 n).1 < 65536) ∧ (0 ≤ (portsM v6 n).2.1 ∧ (portsM v6 n).2.1 < 65536) := by
  have := two_range n.body 0
  have := two_range n.body 2
  unfold portsM
  repeat (first | split | (simp only; omega))
end Go.Proofs.Ytbknfmaefmbfdaa
