/-
  Rows of numbers as cells.
-/
import Derived.Test.YtahcaplhdgphcaaGreatCount
import Derived.Test.YtahcaplhdgphcaaGreatCurRef
import Derived.Test.YtahcaplhdgphcaaGreatCurPut
import Derived.Test.YtahcaplhdgphcaaGreatCurMore
import Derived.Test.YtahcaplhdgphcaaGreatRw
namespace Go.Proofs.YtahcaplhdgphcaaGreat
open Go Go.RowKit Go.Proofs.RV
set_option linter.unusedSimpArgs false
set_option linter.unusedVariables false
set_option maxRecDepth 10000
set_option maxHeartbeats 4000000

def ints (s : List Int) : List Value := s.map fun n => .int .i64 n
theorem ints_at {s : List Int} {k : Nat} (h : k < s.length) : (ints s)[k]? = some (.int .i64 (s.getD k 0)) := by
  simp [ints, h]
theorem int64E : ElemT Tryz.prog 2 (.int .i64 0) 1 8 := by unfold ElemT; kernel_rfl
theorem ints_len (s : List Int) : (ints s).length = s.length := by simp [ints]
theorem ints_one (s : List Int) : ∀ u ∈ ints s, u.oneCell' = true := by
  intro u hu
  obtain ⟨n, _, rfl⟩ := List.mem_map.1 hu
  rfl
theorem ints_inj {a b : List Int} : ints a = ints b ↔ a = b := by
  constructor
  · intro h
    exact (List.map_inj_right (fun x y hxy => by injection hxy)).1 h
  · rintro rfl; rfl
/-- the k-th number of bytes -/
def numAt (l : List UInt8) (k : Nat) : Int := be ((l.drop (8 * k)).take 8)
theorem InW.wr {w w' : World} {F : Nat → Prop} {q p : Nat} {s : InM} (h : InW w F q s) (hw : Wr p w w') (hq : q ≠ p) (hF : ∀ k, F k → k ≠ p) : InW w' F q s := by
  obtain ⟨A, c, hb, hA, hc, hne, hA2⟩ := h
  exact ⟨A, c, hw.blk hb hq, hw.cs hA fun a ha => hF _ (hA2 a ha), hc, hne, hA2⟩
end Go.Proofs.YtahcaplhdgphcaaGreat
