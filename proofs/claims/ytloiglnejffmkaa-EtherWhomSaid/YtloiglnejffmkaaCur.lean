/-
  Layer 2: bytes that are taken: the model and its frame.
-/
import Derived.Test.YtloiglnejffmkaaCopy
namespace Go.Proofs.Ytloiglnejffmkaa
open Go Go.RowKit Go.Proofs.RV
set_option linter.unusedSimpArgs false
set_option linter.unusedVariables false

/-- everything that was there stays, but block q -/
abbrev But (q : Nat) (w w' : World) : Prop := Mod (fun k => k = q) w w'
theorem But.refl (q : Nat) (w : World) : But q w w := Mod.refl _ w
theorem But.trans {q : Nat} {a b c : World} (h : But q a b) (k : But q b c) : But q a c := Mod.trans h k
theorem But.of_more {q : Nat} {a b : World} (h : More a b) : But q a b := Mod.of_more h
theorem But.of_wr {q : Nat} {a b : World} (h : Wr q a b) : But q a b := Mod.of_wr h rfl
theorem But.below {q B : Nat} {a b : World} (h : But q a b) (hB : B ≤ q) (hs : B ≤ a.heap.size) : Below B a b := Mod.below h (fun k hk hq => by have : k = q := hq; omega) hs
theorem But.blk {q b : Nat} {e : TypeId} {cs : List Value} {w w' : World} (h : But q w w') (hb : Blk w b e cs) (hne : b ≠ q) : Blk w' b e cs := Mod.blk h hb hne
theorem But.bs {q : Nat} {A : Option Addr} {l : List UInt8} {w w' : World} (h : But q w w') (hA : Bs w A l) (hne : ∀ a, A = some a → a.block ≠ q) : Bs w' A l := Mod.cs h hA hne
/-- an In -/
structure InM where
  rest : List UInt8
  bad : Bool
/-- at q, its bytes in a block of F -/
def InW (w : World) (F : Nat → Prop) (q : Nat) (s : InM) : Prop := ∃ A c, Blk w q 142 [.slice A s.rest.length c, .bool s.bad] ∧ Bs w A s.rest ∧ s.rest.length ≤ c ∧ (∀ a, A = some a → a.block ≠ q) ∧ ∀ a, A = some a → F a.block
theorem InW.mod {w w' : World} {F S : Nat → Prop} {q : Nat} {s : InM} (h : InW w F q s) (hm : Mod S w w') (hq : ¬ S q) (hF : ∀ k, F k → ¬ S k) : InW w' F q s := by
  obtain ⟨A, c, h1, h2, h3, h4, h5⟩ := h
  exact ⟨A, c, hm.blk h1 hq, hm.cs h2 fun a ha => hF _ (h5 a ha), h3, h4, h5⟩
theorem InW.more {w w' : World} {F : Nat → Prop} {q : Nat} {s : InM} (h : InW w F q s) (hm : More w w') : InW w' F q s :=
  h.mod (S := fun _ => False) (Mod.of_more hm) (fun h => h) (fun _ _ h => h)
end Go.Proofs.Ytloiglnejffmkaa
