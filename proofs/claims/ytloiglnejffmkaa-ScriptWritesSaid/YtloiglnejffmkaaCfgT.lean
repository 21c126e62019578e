/-
  Layer 26: other thresholds.
-/
import Derived.Test.YtloiglnejffmkaaCfgG
namespace Go.Proofs.Ytloiglnejffmkaa
open Go Go.RowKit Go.Proofs.RV
set_option linter.unusedSimpArgs false
set_option linter.unusedVariables false
set_option maxRecDepth 10000
set_option maxHeartbeats 4000000

theorem cfg_flat {s : List Int} (h : s.length = 20) : Flat Try.prog 2 157 (ints s) ∧ Flat Try.prog 2 84 (ints s) := by
  rw [list20 h]
  constructor
  · refine flat_struct Try.underlying157 (by kernel_rfl) ?_
    simp only [ints, List.map_cons, List.map_nil]
    repeat (first | exact rfl | refine ⟨by decide, rfl, [_], _, rfl, by first | exact cells3.symm | exact cells2.symm, by first | exact flat_int Try.underlying3 _ | exact flat_int Try.underlying2 _, ?_⟩)
  · refine flat_struct Try.underlying84 (by kernel_rfl) ?_
    simp only [ints, List.map_cons, List.map_nil]
    repeat (first | exact rfl | refine ⟨by decide, rfl, [_], _, rfl, by first | exact cells3.symm | exact cells2.symm, by first | exact flat_int Try.underlying3 _ | exact flat_int Try.underlying2 _, ?_⟩)
open Classical in
theorem cfg_eq {a b : List Int} (ha : a.length = 20) (hb : b.length = 20) (w0 : World) (ox oy : Operand) (K : Value → Prop) :
    pureP Try.prog (do eqGuard .eql 157 ox oy (.agg (ints a).toArray) (.agg (ints b).toArray); binOp .eql 157 (.agg (ints a).toArray) (.agg (ints b).toArray)) K = K (.bool (decide (a = b))) := by
  rw [eql_flat (n := 2) (by kernel_rfl) ⟨by unfold tv; rw [Try.underlying157], by unfold tv; rw [Try.underlying157]⟩ (cfg_flat ha).1 (cfg_flat hb).1 (by omega) w0 ox oy K]
  simp only [ints_inj]
open Classical in
theorem rcfg_eq {a b : List Int} (ha : a.length = 20) (hb : b.length = 20) (w0 : World) (ox oy : Operand) (K : Value → Prop) :
    pureP Try.prog (do eqGuard .eql 84 ox oy (.agg (ints a).toArray) (.agg (ints b).toArray); binOp .eql 84 (.agg (ints a).toArray) (.agg (ints b).toArray)) K = K (.bool (decide (a = b))) := by
  rw [eql_flat (n := 2) (by kernel_rfl) ⟨by unfold tv; rw [Try.underlying84], by unfold tv; rw [Try.underlying84]⟩ (cfg_flat ha).2 (cfg_flat hb).2 (by omega) w0 ox oy K]
  simp only [ints_inj]
end Go.Proofs.Ytloiglnejffmkaa
