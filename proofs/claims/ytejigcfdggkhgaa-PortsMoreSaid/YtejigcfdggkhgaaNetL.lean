/-
  A packet's head that came in as an argument.
-/
import Derived.Test.YtejigcfdggkhgaaNetM
import Derived.Test.YtejigcfdggkhgaaLa
namespace Go.Proofs.Ytejigcfdggkhgaa
open Go Go.RowKit Go.Proofs.RV
set_option linter.unusedSimpArgs false
set_option linter.unusedVariables false

theorem net_in {w : World} {k : Nat} {x : Array Value} (h : Lays Try.prog w k 25 x.toList) : ∃ (n : NetM) (A : Option Addr) (c : Nat), x = (n.cells A c).toArray ∧ n.Fit ∧ Bs w A n.body := by
  have hl := (h.field Try.underlying25).1
  obtain ⟨_, f0⟩ := h.fieldAt Try.underlying25 0 5 0 rfl cells5
  obtain ⟨_, f1⟩ := h.fieldAt Try.underlying25 1 22 1 rfl cells22
  obtain ⟨_, f2⟩ := h.fieldAt Try.underlying25 2 22 17 rfl cells22
  obtain ⟨_, f3⟩ := h.fieldAt Try.underlying25 3 23 33 rfl cells23
  obtain ⟨_, f4⟩ := h.fieldAt Try.underlying25 4 4 34 rfl cells4
  obtain ⟨p, e0, r0⟩ := f0.int Try.underlying5
  obtain ⟨s, l1, e1⟩ := f1.bytes Try.underlying22 Try.underlying5 cells5 cells22
  obtain ⟨d, l2, e2⟩ := f2.bytes Try.underlying22 Try.underlying5 cells5 cells22
  obtain ⟨A, b, c, e3, hc, hA⟩ := f3.byteRow Try.underlying23 Try.underlying5 cells5
  obtain ⟨t, e4⟩ := f4.bool Try.underlying4
  rw [cells25] at hl
  refine ⟨⟨p, s, d, b, t⟩, A, c, ?_, ?_, hA⟩
  · have e : x.toList = [Value.int .u8 p] ++ (s.map byteV ++ (d.map byteV ++ ([Value.slice A b.length c] ++ [Value.bool t]))) := by
      rw [← e0, ← e1, ← e2, ← e3, ← e4, ← List.drop_zero (l := x.toList), List.drop_zero]
      conv => lhs; rw [← List.drop_zero (l := x.toList), cut_at _ 0 1, cut_at _ (0 + 1) 16, cut_at _ (0 + 1 + 16) 16, cut_at _ (0 + 1 + 16 + 16) 1, cut_at _ (0 + 1 + 16 + 16 + 1) 1]
      rw [List.drop_eq_nil_of_le (i := 0 + 1 + 16 + 16 + 1 + 1) (by omega), List.append_nil]
    apply Array.ext'
    rw [e]
    simp [NetM.cells]
  · simp [IntKind.min, IntKind.max, IntKind.signed, IntKind.bits] at r0
    exact ⟨r0.1, by show p < 256; omega, l1, l2⟩
end Go.Proofs.Ytejigcfdggkhgaa
