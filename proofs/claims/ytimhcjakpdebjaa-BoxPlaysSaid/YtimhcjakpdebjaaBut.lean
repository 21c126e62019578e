/-
  Frames: everything but one block.
-/
import Derived.Test.YtimhcjakpdebjaaCopy
namespace Go.Proofs.Ytimhcjakpdebjaa
open Go Go.RowKit Go.Proofs.RV
set_option linter.unusedSimpArgs false
set_option linter.unusedVariables false

/-- everything that was there stays, but block q -/
abbrev But (q : Nat) (w w' : World) : Prop := Mod (fun k => k = q) w w'
theorem But.refl (q : Nat) (w : World) : But q w w := Mod.refl _ w
theorem But.trans {q : Nat} {a b c : World} (h : But q a b) (k : But q b c) : But q a c := Mod.trans h k
theorem But.of_more {q : Nat} {a b : World} (h : More a b) : But q a b := Mod.of_more h
theorem But.of_wr {q : Nat} {a b : World} (h : Wr q a b) : But q a b := Mod.of_wr h rfl
theorem But.below {q B : Nat} {a b : World} (h : But q a b) (hB : B ≤ q) (hs : B ≤ a.heap.size) : Below B a b := Mod.below h (fun k hk hq => by have : k = q := hq; omega) hs
theorem But.blk {q b : Nat} {e : TypeId} {cs : List Value} {w w' : World} (h : But q w w') (hb : Blk w b e cs) (hne : b ≠ q) : Blk w' b e cs := Mod.blk h hb hne
theorem But.bs {q : Nat} {A : Option Addr} {l : List UInt8} {w w' : World} (h : But q w w') (hA : Bs w A l) (hne : ∀ a, A = some a → a.block ≠ q) : Bs w' A l := Mod.cs h hA hne
theorem more_but {w w1 w2 : World} {q : Nat} (h : More w w1) (hb : But q w1 w2) (hq : w.heap.size ≤ q) : More w w2 :=
  Below.trans h (hb.below hq h.size)
theorem build_arrE {P : Program} {T e : TypeId} {n s : Nat} {z : Value} {parts : Array (Nat × Value)} {out : List Value} (hT : P.underlying T = some (.array n e)) (he : P.cellsOf e = s) (h0 : s ≠ 0) (hz : zer P T = some z)
    (hf : laid (fun i => some (i * s, s)) z.cells.toList parts.toList = some out) (w0 : World) (K : Value → Prop) : pureP P (Instr.build T parts) K = K (.agg out.toArray) := by
  subst he
  have hr : ∀ w, (Instr.build T parts).run P w = .ok (.agg out.toArray) w := by
    intro w
    unfold Instr.build
    rw [Sem.run_bind, zero_run hz]
    simp only [Result.andThen_ok]
    rw [Sem.run_bind, run_un hT]
    simp only [Result.andThen_ok]
    rw [Sem.run_bind, size_run' h0]
    simp only [Result.andThen_ok]
    rw [fill_laid _ parts.toList z.cells out hf]
    rfl
  exact pure_eq hr w0 K
theorem bslice1 {P : Program} {t e : TypeId} {z : Value} {bytes s : Nat} {cs : List Value} {w : World} {K : Value → World → Prop} (ht : P.underlying t = some (.slice e)) (hE : ElemT P e z s bytes) (h0 : 0 < s) (h24 : s ≤ 16777216) (hl : cs.length = s)
    (hK : K (.slice (some ⟨w.heap.size, 0, none⟩) 1 1) (w.alloc (.cells cs.toArray e))) : runP P (Instr.buildSlice t 1 #[(0, .agg cs.toArray)]) w K := by
  obtain ⟨i, hi, hz, hs, hby⟩ := info_parts hE
  refine ⟨_, _, ?_, hK⟩
  have hsz : (Go.sizeOf e).run P w = .ok s w := by simp [Go.sizeOf, typeInfo, hi, hs]
  have hzr : (zeroValue e).run P w = .ok z w := by simp [zeroValue, typeInfo, hi, hz]
  unfold Instr.buildSlice
  rw [Sem.run_bind, run_un ht]
  simp only [Result.andThen_ok]
  rw [Sem.run_bind, hsz]
  simp only [Result.andThen_ok]
  rw [if_neg (by omega), if_neg (by omega), Sem.run_bind, hzr]
  simp only [Result.andThen_ok]
  rw [Sem.run_bind]
  simp only [Sem.run_pure, Result.andThen_ok]
  have hf : laid (fun i => some (i * s, s)) ((Array.range (1 * s)).map (z.cells[· % z.cells.size]!)).toList [(0, .agg cs.toArray)] = some cs := by
    have hc : (Value.agg cs.toArray).cells.toList = cs := rfl
    simp only [laid, Option.bind_some, hc, Nat.zero_mul, Nat.zero_add, hl, Array.length_toList, Array.size_map, Array.size_range, Nat.one_mul, Nat.le_refl, and_self, if_true]
    rw [splice_eq _ _ _ (by simp [hl])]
    simp [hl]
  have h2 := fill_laid _ [(0, .agg cs.toArray)] _ cs hf
  rw [h2]
  rfl
end Go.Proofs.Ytimhcjakpdebjaa
