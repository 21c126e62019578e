/-
  Layer 8: the reference, what an idle program answers wrongly, EtherReads.
-/
import Derived.Test.YtahcaplhdgphcaaGreatEther
namespace Go.Proofs.YtahcaplhdgphcaaGreat
open Go Go.RowKit Go.Proofs.RV
set_option linter.unusedSimpArgs false
set_option linter.unusedVariables false
set_option maxRecDepth 10000
set_option maxHeartbeats 2000000

/-- what is stored in a fresh variable -/
theorem link_var {w : World} {b : Bool} {x : Int} {K : World → Prop} (hK : ∀ w', More w w' → Blk w' w.heap.size 122 [.bool b, .int .i64 x] → w'.heap.size = w.heap.size + 1 → K w') :
    stRow 2 #[.bool b, .int .i64 x] ⟨w.heap.size, 0, none⟩ (w.alloc (.cells #[.bool false, .int .i64 0] 122)) K := by
  have hm := more_alloc w (.cells #[.bool false, .int .i64 0] 122)
  have hb := Blk.new w 122 #[.bool false, .int .i64 0]
  refine st_all hb rfl rfl (by intro u hu; simp at hu; rcases hu with rfl | rfl <;> rfl) fun w' h1 h2 => hK w' (h1.below hm (Nat.le_refl _)) h2 ?_
  rw [h1.size, size_alloc]
theorem link_g : Tryz.prog.eqGuardType Tryz.prog.depth 122 = false := by kernel_rfl
theorem link_tv (b : Bool) (x : Int) : tv Tryz.prog 122 [.bool b, .int .i64 x] = .agg [.bool b, .int .i64 x].toArray := by unfold tv; rw [Tryz.underlying122]
theorem link_eq (b b' : Bool) (x x' : Int) (w0 : World) (ox oy : Operand) (K : Value → Prop) :
    pureP Tryz.prog (do eqGuard .eql 122 ox oy (.agg #[.bool b, .int .i64 x]) (.agg #[.bool b', .int .i64 x']); binOp .eql 122 (.agg #[.bool b, .int .i64 x]) (.agg #[.bool b', .int .i64 x'])) K = K (.bool (b == b' && decide (x = x'))) := by
  have := eql_flat (xs := [.bool b, .int .i64 x]) (ys := [.bool b', .int .i64 x']) link_g ⟨link_tv b x, link_tv b' x'⟩ (link_flat b x) (link_flat b' x') (by omega) w0 ox oy K
  rw [this]
  congr 2
  cases b <;> cases b' <;> simp
theorem link_ne (b b' : Bool) (x x' : Int) (w0 : World) (ox oy : Operand) (K : Value → Prop) :
    pureP Tryz.prog (do eqGuard .neq 122 ox oy (.agg #[.bool b, .int .i64 x]) (.agg #[.bool b', .int .i64 x']); binOp .neq 122 (.agg #[.bool b, .int .i64 x]) (.agg #[.bool b', .int .i64 x'])) K = K (.bool (!(b == b' && decide (x = x')))) := by
  have := neq_flat (xs := [.bool b, .int .i64 x]) (ys := [.bool b', .int .i64 x']) link_g ⟨link_tv b x, link_tv b' x'⟩ (link_flat b x) (link_flat b' x') (by omega) w0 ox oy K
  rw [this]
  congr 2
  cases b <;> cases b' <;> simp
end Go.Proofs.YtahcaplhdgphcaaGreat
