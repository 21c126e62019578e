/-
  What a packet's head tells: the model, and how it lies in memory.
-/
import Derived.Test.YtloiglnejffmkaaCopy
namespace Go.Proofs.Ytloiglnejffmkaa
open Go Go.RowKit Go.Proofs.RV
set_option linter.unusedSimpArgs false
set_option linter.unusedVariables false

/-- two bytes as a number -/
def two (l : List UInt8) (i : Nat) : Int := bt l i * 256 + bt l (i + 1)
theorem two_range (l : List UInt8) (i : Nat) : 0 ≤ two l i ∧ two l i < 65536 := by
  have := bt_nonneg l i; have := bt_lt l i; have := bt_nonneg l (i + 1); have := bt_lt l (i + 1)
  unfold two; omega
theorem bt_drop (l : List UInt8) (k i : Nat) : bt (l.drop k) i = bt l (k + i) := by
  simp [bt, List.getD_eq_getElem?_getD, List.getElem?_drop]
end Go.Proofs.Ytloiglnejffmkaa
