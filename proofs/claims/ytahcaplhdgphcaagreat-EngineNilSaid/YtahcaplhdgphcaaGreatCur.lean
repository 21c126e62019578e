/-
  Layer 2: bytes that are taken: the model and its frame.
-/
import Derived.Test.YtahcaplhdgphcaaGreatBut
namespace Go.Proofs.YtahcaplhdgphcaaGreat
open Go Go.RowKit Go.Proofs.RV
set_option linter.unusedSimpArgs false
set_option linter.unusedVariables false

/-- an In -/
structure InM where
  rest : List UInt8
  bad : Bool
/-- at q, its bytes in a block of F -/
def InW (w : World) (F : Nat → Prop) (q : Nat) (s : InM) : Prop := ∃ A c, Blk w q 242 [.slice A s.rest.length c, .bool s.bad] ∧ Bs w A s.rest ∧ s.rest.length ≤ c ∧ (∀ a, A = some a → a.block ≠ q) ∧ ∀ a, A = some a → F a.block
theorem InW.mod {w w' : World} {F S : Nat → Prop} {q : Nat} {s : InM} (h : InW w F q s) (hm : Mod S w w') (hq : ¬ S q) (hF : ∀ k, F k → ¬ S k) : InW w' F q s := by
  obtain ⟨A, c, h1, h2, h3, h4, h5⟩ := h
  exact ⟨A, c, hm.blk h1 hq, hm.cs h2 fun a ha => hF _ (h5 a ha), h3, h4, h5⟩
theorem InW.more {w w' : World} {F : Nat → Prop} {q : Nat} {s : InM} (h : InW w F q s) (hm : More w w') : InW w' F q s :=
  h.mod (S := fun _ => False) (Mod.of_more hm) (fun h => h) (fun _ _ h => h)
end Go.Proofs.YtahcaplhdgphcaaGreat
