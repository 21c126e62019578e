/-
  A flow that came in as an argument.
-/
import Derived.Test.YtbknfmaefmbfdaaFlow
import Derived.Test.YtbknfmaefmbfdaaLa
namespace Go.Proofs.Ytbknfmaefmbfdaa
open Go Go.RowKit Go.Proofs.RV
set_option linter.unusedSimpArgs false
set_option linter.unusedVariables false

theorem flow_in {w : World} {k : Nat} {x : Array Value} (h : Lays Try.prog w k 71 x.toList) : ∃ f : FlowM, x = f.cells.toArray ∧ f.Fit := by
  have hl := (h.field Try.underlying71).1
  obtain ⟨_, f0⟩ := h.fieldAt Try.underlying71 0 4 0 rfl cells4
  obtain ⟨_, f1⟩ := h.fieldAt Try.underlying71 1 5 1 rfl cells5
  obtain ⟨_, f2⟩ := h.fieldAt Try.underlying71 2 68 2 rfl cells68
  obtain ⟨_, f3⟩ := h.fieldAt Try.underlying71 3 68 18 rfl cells68
  obtain ⟨_, f4⟩ := h.fieldAt Try.underlying71 4 69 34 rfl cells69
  obtain ⟨_, f5⟩ := h.fieldAt Try.underlying71 5 69 35 rfl cells69
  obtain ⟨t, e0⟩ := f0.bool Try.underlying4
  obtain ⟨p, e1, r1⟩ := f1.int Try.underlying5
  obtain ⟨s, l2, e2⟩ := f2.bytes Try.underlying68 Try.underlying5 cells5 cells68
  obtain ⟨d, l3, e3⟩ := f3.bytes Try.underlying68 Try.underlying5 cells5 cells68
  obtain ⟨sp, e4, r4⟩ := f4.int Try.underlying69
  obtain ⟨dp, e5, r5⟩ := f5.int Try.underlying69
  rw [cells71] at hl
  refine ⟨⟨t, p, s, d, sp, dp⟩, ?_, ?_⟩
  · have e : x.toList = [Value.bool t] ++ ([Value.int .u8 p] ++ (s.map byteV ++ (d.map byteV ++ ([Value.int .u16 sp] ++ [Value.int .u16 dp])))) := by
      rw [← e0, ← e1, ← e2, ← e3, ← e4, ← e5, ← List.drop_zero (l := x.toList), List.drop_zero]
      conv => lhs; rw [← List.drop_zero (l := x.toList), cut_at _ 0 1, cut_at _ (0 + 1) 1, cut_at _ (0 + 1 + 1) 16, cut_at _ (0 + 1 + 1 + 16) 16, cut_at _ (0 + 1 + 1 + 16 + 16) 1, cut_at _ (0 + 1 + 1 + 16 + 16 + 1) 1]
      rw [List.drop_eq_nil_of_le (i := 0 + 1 + 1 + 16 + 16 + 1 + 1) (by omega), List.append_nil]
    apply Array.ext'
    rw [e]
    simp [FlowM.cells]
  · simp [IntKind.min, IntKind.max, IntKind.signed, IntKind.bits] at r1 r4 r5
    exact ⟨r1.1, by show p < 256; omega, l2, l3, r4.1, by show sp < 65536; omega, r5.1, by show dp < 65536; omega⟩
end Go.Proofs.Ytbknfmaefmbfdaa
