/-
  Layer 31: operations that came in.
-/
import Derived.Test.YtloiglnejffmkaaScrL
import Derived.Test.YtloiglnejffmkaaXt
namespace Go.Proofs.Ytloiglnejffmkaa
open Go Go.RowKit Go.Proofs.RV
set_option linter.unusedSimpArgs false
set_option linter.unusedVariables false
set_option maxRecDepth 10000
set_option maxHeartbeats 4000000
theorem op_in {w : World} (k : Nat) (cs : List Value) (h : LayS Try.prog w k 159 cs) (hl : cs.length = 49) : ∃ m : OpM, cs = m.cells ∧ (m.o.Fit ∧ m.o.Num ∧ Bs w m.A m.o.b ∧ m.o.b.length ≤ m.c) := by
  obtain ⟨_, g0⟩ := h.fieldAt Try.underlying159 0 5 0 rfl cells5
  obtain ⟨kd, e0, k0, k1⟩ := g0.lays.int Try.underlying5
  obtain ⟨_, g1⟩ := h.fieldAt Try.underlying159 1 2 1 rfl cells2
  obtain ⟨t, e1, _, _⟩ := g1.lays.int Try.underlying2
  obtain ⟨_, g2⟩ := h.fieldAt Try.underlying159 2 81 2 rfl cells81
  obtain ⟨ds, hds, e2, hd⟩ := g2.lays.ints Try.underlying81 Try.underlying43 cells43 cells81
  obtain ⟨d0, d1, rfl⟩ : ∃ a b, ds = [a, b] := by
    match ds, hds with
    | [a, b], _ => exact ⟨a, b, rfl⟩
  obtain ⟨_, g3⟩ := h.fieldAt Try.underlying159 3 22 4 rfl cells22
  obtain ⟨A, b, c, e3, hc, hA, hcr⟩ := g3.byteRow Try.underlying22 Try.underlying5 cells5 (by kernel_rfl)
  obtain ⟨_, g4⟩ := h.fieldAt Try.underlying159 4 82 5 rfl cells82
  obtain ⟨key, hk, e4⟩ := g4.lays.bytes Try.underlying82 Try.underlying5 cells5 cells82
  obtain ⟨_, g5⟩ := h.fieldAt Try.underlying159 5 61 21 rfl cells61
  obtain ⟨_, g50⟩ := g5.fieldAt Try.underlying61 0 4 0 rfl cells4
  obtain ⟨v6, e50⟩ := g50.lays.bool Try.underlying4
  obtain ⟨_, g51⟩ := g5.fieldAt Try.underlying61 1 59 1 rfl cells59
  obtain ⟨ad, ha, e51⟩ := g51.lays.bytes Try.underlying59 Try.underlying5 cells5 cells59
  obtain ⟨_, g6⟩ := h.fieldAt Try.underlying159 6 157 29 rfl cells157
  obtain ⟨cfg, e6, hcf, _⟩ := cfg_in (x := ((cs.drop 29).take 20).toArray) (by simpa using g6.lays)
  have e6' : (cs.drop 29).take 20 = ints cfg := by
    have := congrArg Array.toList e6
    simpa using this
  have hd0 := hd d0 (by simp)
  have hd1 := hd d1 (by simp)
  simp [IntKind.min, IntKind.max, IntKind.signed, IntKind.bits] at hd0 hd1 k0 k1
  refine ⟨⟨⟨kd, t, d0, d1, b, key, v6, ad, cfg⟩, A, c⟩, ?_, ⟨hk, ha, hcf⟩, ⟨by simp only; omega, by simp only; omega, by simp only; omega, by simp only; omega, by simp only [reachBytes] at hcr; simp only; omega⟩, hA, hc⟩
  have cut : cs = (cs.drop 0).take 1 ++ ((cs.drop 1).take 1 ++ ((cs.drop 2).take 2 ++ ((cs.drop 4).take 1 ++ ((cs.drop 5).take 16 ++ ((((cs.drop 21).take 8).drop 0).take 1 ++ ((((cs.drop 21).take 8).drop 1).take 7 ++ (cs.drop 29).take 20)))))) := by
    have h29 : (cs.drop 29).take 20 = cs.drop 29 := List.take_of_length_le (by rw [List.length_drop]; omega)
    have h21 : (((cs.drop 21).take 8).drop 0).take 1 ++ (((cs.drop 21).take 8).drop 1).take 7 = (cs.drop 21).take 8 := by
      rw [List.drop_zero, List.take_of_length_le (l := ((cs.drop 21).take 8).drop 1) (by simp; omega), List.take_append_drop]
    have ass : ∀ r : List Value, (((cs.drop 21).take 8).drop 0).take 1 ++ ((((cs.drop 21).take 8).drop 1).take 7 ++ r) = (cs.drop 21).take 8 ++ r := fun r => by rw [← List.append_assoc, h21]
    rw [h29, ass]
    rw [← cut_at cs 21 8, ← cut_at cs 5 16, ← cut_at cs 4 1, ← cut_at cs 2 2, ← cut_at cs 1 1, ← cut_at cs 0 1]
    rfl
  refine cut.trans ?_
  rw [e0, e1, e2, e3, e4, e50, e51, e6']
  simp [OpM.cells, SOp.cells]
end Go.Proofs.Ytloiglnejffmkaa
