/-
  A copy of bytes in memory of its own.
-/
import Derived.Test.YtimhcjakpdebjaaNum
import Derived.Test.YtimhcjakpdebjaaTy
import Derived.Test.YtimhcjakpdebjaaAp
namespace Go.Proofs.Ytimhcjakpdebjaa
open Go Go.RowKit Go.Proofs.RV
set_option linter.unusedSimpArgs false
set_option linter.unusedVariables false

theorem byteE : ElemT Try.prog 5 (.int .u8 0) 1 1 := by unfold ElemT; kernel_rfl
def noBytes (n : Nat) : List UInt8 := List.replicate n 0
def lenOf : Value → Nat
  | .slice _ n _ => n
  | _ => 0
def numOf : Value → Int
  | .int _ n => n
  | _ => 0
theorem adv_add (b o n c k s : Nat) (h : c ≠ k) : adv (some ⟨b, o, none⟩) c k s = some ⟨b, o + k * s, none⟩ := by
  unfold adv
  rw [if_neg h, Option.map_some, add_mk]
end Go.Proofs.Ytimhcjakpdebjaa
