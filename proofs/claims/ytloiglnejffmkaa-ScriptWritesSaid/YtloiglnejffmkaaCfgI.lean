/-
  Layer 26: a config's bytes are read as they were; what came in.
-/
import Derived.Test.YtloiglnejffmkaaCfgG
import Derived.Test.YtloiglnejffmkaaLa
namespace Go.Proofs.Ytloiglnejffmkaa
open Go Go.RowKit Go.Proofs.RV
set_option linter.unusedSimpArgs false
set_option linter.unusedVariables false
set_option maxRecDepth 10000
set_option maxHeartbeats 4000000
theorem numAt_next (l : List UInt8) (k : Nat) : numAt l (k + 1) = numAt (l.drop 8) k := by
  unfold numAt
  rw [List.drop_drop, show 8 + 8 * k = 8 * (k + 1) by omega]
def inI (x : Int) : Prop := -9223372036854775808 ≤ x ∧ x ≤ 9223372036854775807
theorem wrap_back {x : Int} (h : inI x) : IntKind.i64.wrap (IntKind.u64.wrap x) = x := by
  unfold inI at h
  simp [IntKind.wrap, IntKind.signed, IntKind.bits]
  omega
theorem encC_at : ∀ (s : List Int) (k : Nat), k < s.length → numAt (encC s) k = IntKind.u64.wrap (s.getD k 0)
  | [], k, h => by simp at h
  | n :: r, 0, h => by
    have h0 := wrapu_nonneg n
    unfold numAt encC
    rw [Nat.mul_zero, List.drop_zero, List.take_append_of_le_length (by rw [numB_len]; omega), List.take_of_length_le (by rw [numB_len]; omega), be_numB h0]
    show IntKind.u64.wrap n % 18446744073709551616 = IntKind.u64.wrap n
    simp [IntKind.wrap, IntKind.signed, IntKind.bits]
  | n :: r, k + 1, h => by
    rw [numAt_next, encC]
    have : (numB (IntKind.u64.wrap n) 8 ++ encC r).drop 8 = encC r := by
      have h8 := numB_len (IntKind.u64.wrap n) 8
      rw [List.drop_append_of_le_length (by omega), List.drop_of_length_le (by omega)]
      rfl
    rw [this]
    exact encC_at r k (by simpa using h)
theorem numsC_encC {c : List Int} (hc : c.length = 20) (hr : ∀ x ∈ c, inI x) : numsC (encC c) = c := by
  apply List.ext_getElem
  · rw [numsC_len, hc]
  · intro i h1 h2
    simp only [numsC, List.getElem_map, List.getElem_range]
    rw [encC_at c i h2]
    have e : c.getD i 0 = c[i] := by simp [h2]
    rw [e]
    exact wrap_back (hr _ (List.getElem_mem _))
theorem decC_encC {c : List Int} (hc : c.length = 20) (hr : ∀ x ∈ c, inI x) : (rightM c → decC (encC c) = (c, 0)) ∧ (¬ rightM c → decC (encC c) = (z20, 5)) := by
  have hl : (encC c).length = 160 := by rw [encC_len, hc]
  unfold decC
  rw [if_pos hl, numsC_encC hc hr]
  exact ⟨fun h => by rw [if_pos h], fun h => by rw [if_neg h]⟩
theorem cfg_in {w : World} {k : Nat} {x : Array Value} (h : Lays Try.prog w k 157 x.toList) : ∃ c : List Int, x = (ints c).toArray ∧ c.length = 20 ∧ ∀ y ∈ c, inI y := by
  have hl := (h.field Try.underlying157).1
  rw [cells157] at hl
  have hf : ∀ i, i < 20 → ∃ y, (x.toList.drop i).take 1 = [.int .i64 y] ∧ IntKind.i64.min ≤ y ∧ y ≤ IntKind.i64.max := by
    intro i hi
    match i, hi with
    | 0, _ => obtain ⟨_, f⟩ := h.fieldAt Try.underlying157 0 3 0 rfl cells3; exact f.int Try.underlying3
    | 1, _ => obtain ⟨_, f⟩ := h.fieldAt Try.underlying157 1 3 1 rfl cells3; exact f.int Try.underlying3
    | 2, _ => obtain ⟨_, f⟩ := h.fieldAt Try.underlying157 2 3 2 rfl cells3; exact f.int Try.underlying3
    | 3, _ => obtain ⟨_, f⟩ := h.fieldAt Try.underlying157 3 3 3 rfl cells3; exact f.int Try.underlying3
    | 4, _ => obtain ⟨_, f⟩ := h.fieldAt Try.underlying157 4 3 4 rfl cells3; exact f.int Try.underlying3
    | 5, _ => obtain ⟨_, f⟩ := h.fieldAt Try.underlying157 5 3 5 rfl cells3; exact f.int Try.underlying3
    | 6, _ => obtain ⟨_, f⟩ := h.fieldAt Try.underlying157 6 3 6 rfl cells3; exact f.int Try.underlying3
    | 7, _ => obtain ⟨_, f⟩ := h.fieldAt Try.underlying157 7 3 7 rfl cells3; exact f.int Try.underlying3
    | 8, _ => obtain ⟨_, f⟩ := h.fieldAt Try.underlying157 8 2 8 rfl cells2; exact f.int Try.underlying2
    | 9, _ => obtain ⟨_, f⟩ := h.fieldAt Try.underlying157 9 2 9 rfl cells2; exact f.int Try.underlying2
    | 10, _ => obtain ⟨_, f⟩ := h.fieldAt Try.underlying157 10 2 10 rfl cells2; exact f.int Try.underlying2
    | 11, _ => obtain ⟨_, f⟩ := h.fieldAt Try.underlying157 11 2 11 rfl cells2; exact f.int Try.underlying2
    | 12, _ => obtain ⟨_, f⟩ := h.fieldAt Try.underlying157 12 2 12 rfl cells2; exact f.int Try.underlying2
    | 13, _ => obtain ⟨_, f⟩ := h.fieldAt Try.underlying157 13 2 13 rfl cells2; exact f.int Try.underlying2
    | 14, _ => obtain ⟨_, f⟩ := h.fieldAt Try.underlying157 14 2 14 rfl cells2; exact f.int Try.underlying2
    | 15, _ => obtain ⟨_, f⟩ := h.fieldAt Try.underlying157 15 2 15 rfl cells2; exact f.int Try.underlying2
    | 16, _ => obtain ⟨_, f⟩ := h.fieldAt Try.underlying157 16 2 16 rfl cells2; exact f.int Try.underlying2
    | 17, _ => obtain ⟨_, f⟩ := h.fieldAt Try.underlying157 17 2 17 rfl cells2; exact f.int Try.underlying2
    | 18, _ => obtain ⟨_, f⟩ := h.fieldAt Try.underlying157 18 2 18 rfl cells2; exact f.int Try.underlying2
    | 19, _ => obtain ⟨_, f⟩ := h.fieldAt Try.underlying157 19 2 19 rfl cells2; exact f.int Try.underlying2
    | n + 20, hi => omega
  obtain ⟨l, h1, h2, h3⟩ := ints_of 20 x.toList hl hf
  refine ⟨l, ?_, h1, fun y hy => ?_⟩
  · apply Array.ext'
    rw [h2]
    rfl
  · have := h3 y hy
    simp [IntKind.min, IntKind.max, IntKind.signed, IntKind.bits] at this
    unfold inI; omega
end Go.Proofs.Ytloiglnejffmkaa
