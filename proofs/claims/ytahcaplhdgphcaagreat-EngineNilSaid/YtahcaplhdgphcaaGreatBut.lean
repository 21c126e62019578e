/-
  Frames: everything but one block.
-/
import Derived.Test.YtahcaplhdgphcaaGreatCopy
import Derived.Test.YtahcaplhdgphcaaGreatRw
import Derived.Test.YtahcaplhdgphcaaGreatXt
namespace Go.Proofs.YtahcaplhdgphcaaGreat
open Go Go.RowKit Go.Proofs.RV
set_option linter.unusedSimpArgs false
set_option linter.unusedVariables false

/-- everything that was there stays, but block q -/
abbrev But (q : Nat) (w w' : World) : Prop := Mod (fun k => k = q) w w'
theorem But.refl (q : Nat) (w : World) : But q w w := Mod.refl _ w
theorem But.trans {q : Nat} {a b c : World} (h : But q a b) (k : But q b c) : But q a c := Mod.trans h k
theorem But.of_more {q : Nat} {a b : World} (h : More a b) : But q a b := Mod.of_more h
theorem But.of_wr {q : Nat} {a b : World} (h : Wr q a b) : But q a b := Mod.of_wr h rfl
theorem But.below {q B : Nat} {a b : World} (h : But q a b) (hB : B ≤ q) (hs : B ≤ a.heap.size) : Below B a b := Mod.below h (fun k hk hq => by have : k = q := hq; omega) hs
theorem But.blk {q b : Nat} {e : TypeId} {cs : List Value} {w w' : World} (h : But q w w') (hb : Blk w b e cs) (hne : b ≠ q) : Blk w' b e cs := Mod.blk h hb hne
theorem But.bs {q : Nat} {A : Option Addr} {l : List UInt8} {w w' : World} (h : But q w w') (hA : Bs w A l) (hne : ∀ a, A = some a → a.block ≠ q) : Bs w' A l := Mod.cs h hA hne
theorem more_but {w w1 w2 : World} {q : Nat} (h : More w w1) (hb : But q w1 w2) (hq : w.heap.size ≤ q) : More w w2 :=
  Below.trans h (hb.below hq h.size)
theorem build_arrE {P : Program} {T e : TypeId} {n s : Nat} {z : Value} {parts : Array (Nat × Value)} {out : List Value} (hT : P.underlying T = some (.array n e)) (he : P.cellsOf e = s) (h0 : s ≠ 0) (hz : zer P T = some z)
    (hf : laid (fun i => some (i * s, s)) z.cells.toList parts.toList = some out) (w0 : World) (K : Value → Prop) : pureP P (Instr.build T parts) K = K (.agg out.toArray) := by
  subst he
  have hr : ∀ w, (Instr.build T parts).run P w = .ok (.agg out.toArray) w := by
    intro w
    unfold Instr.build
    rw [Sem.run_bind, zero_run hz]
    simp only [Result.andThen_ok]
    rw [Sem.run_bind, run_un hT]
    simp only [Result.andThen_ok]
    rw [Sem.run_bind, size_run' h0]
    simp only [Result.andThen_ok]
    rw [fill_laid _ parts.toList z.cells out hf]
    rfl
  exact pure_eq hr w0 K
theorem bslice1 {P : Program} {t e : TypeId} {z : Value} {bytes s : Nat} {cs : List Value} {w : World} {K : Value → World → Prop} (ht : P.underlying t = some (.slice e)) (hE : ElemT P e z s bytes) (h0 : 0 < s) (h24 : s ≤ 16777216) (hl : cs.length = s)
    (hK : K (.slice (some ⟨w.heap.size, 0, none⟩) 1 1) (w.alloc (.cells cs.toArray e))) : runP P (Instr.buildSlice t 1 #[(0, .agg cs.toArray)]) w K := by
  obtain ⟨i, hi, hz, hs, hby⟩ := info_parts hE
  refine ⟨_, _, ?_, hK⟩
  have hsz : (Go.sizeOf e).run P w = .ok s w := by simp [Go.sizeOf, typeInfo, hi, hs]
  have hzr : (zeroValue e).run P w = .ok z w := by simp [zeroValue, typeInfo, hi, hz]
  unfold Instr.buildSlice
  rw [Sem.run_bind, run_un ht]
  simp only [Result.andThen_ok]
  rw [Sem.run_bind, hsz]
  simp only [Result.andThen_ok]
  rw [if_neg (by omega), if_neg (by omega), Sem.run_bind, hzr]
  simp only [Result.andThen_ok]
  rw [Sem.run_bind]
  simp only [Sem.run_pure, Result.andThen_ok]
  have hf : laid (fun i => some (i * s, s)) ((Array.range (1 * s)).map (z.cells[· % z.cells.size]!)).toList [(0, .agg cs.toArray)] = some cs := by
    have hc : (Value.agg cs.toArray).cells.toList = cs := rfl
    simp only [laid, Option.bind_some, hc, Nat.zero_mul, Nat.zero_add, hl, Array.length_toList, Array.size_map, Array.size_range, Nat.one_mul, Nat.le_refl, and_self, if_true]
    rw [splice_eq _ _ _ (by simp [hl])]
    simp [hl]
  have h2 := fill_laid _ [(0, .agg cs.toArray)] _ cs hf
  rw [h2]
  rfl
theorem laid_step {place : Nat → Option (Nat × Nat)} {cs a b c vs : List Value} {i : Nat} {v : Value} {r : List (Nat × Value)} {out : List Value} (hv : v.cells.toList = vs) (hcs : cs = a ++ (b ++ c)) (hp : place i = some (a.length, b.length)) (hl : vs.length = b.length)
    (h : laid place (a ++ (vs ++ c)) r = some out) : laid place cs ((i, v) :: r) = some out := by
  subst hv hcs
  unfold laid
  rw [hp, Option.bind_some, if_pos ⟨hl, by simp [hl]⟩, splice_eq _ _ _ (by simp [hl])]
  have e1 : (a ++ (b ++ c)).take a.length = a := by simp
  have e2 : (a ++ (b ++ c)).drop (a.length + v.cells.toList.length) = c := by rw [hl]; simp [← List.drop_drop]
  simp only at hl ⊢
  rw [e1, e2, List.append_assoc]
  exact h
theorem splice_get : ∀ (vs xs : List Value) (i : Nat), i + vs.length ≤ xs.length → ∀ k, (splice xs i vs)[k]? = if i ≤ k ∧ k < i + vs.length then vs[k - i]? else xs[k]? := by
  intro vs xs i h k
  rw [splice_eq _ _ _ h]
  by_cases h1 : k < i
  · rw [if_neg (by omega), List.append_assoc, List.getElem?_append_left (by rw [List.length_take]; omega), List.getElem?_take, if_pos h1]
  · by_cases h2 : k < i + vs.length
    · rw [if_pos (by omega), List.getElem?_append_left (by rw [List.length_append, List.length_take]; omega), List.getElem?_append_right (by rw [List.length_take]; omega), List.length_take, Nat.min_eq_left (by omega)]
    · rw [if_neg (by omega), List.getElem?_append_right (by rw [List.length_append, List.length_take]; omega), List.length_append, List.length_take, Nat.min_eq_left (by omega), List.getElem?_drop]
      congr 1
      omega
/-- a part of an element of a row turns -/
theorem row_part {M : Type} {E : M → List Value} {s i j : Nat} {ms : List M} {m m' : M} {vs : List Value} (h : ∀ m ∈ ms, (E m).length = s) (hi : ms[i]? = some m) (hj : j + vs.length ≤ s) (hm : splice (E m) j vs = E m') :
    splice (ms.flatMap E) (i * s + j) vs = (ms.set i m').flatMap E := by
  have hlt : i < ms.length := (List.getElem?_eq_some_iff.1 hi).1
  have hml := h m (List.mem_of_getElem? hi)
  have hm'l : (E m').length = s := by rw [← hm, splice_length, hml]
  rw [← row_set ms h i m' hm'l hlt]
  have hf := row_fits ms h hlt
  apply List.ext_getElem?
  intro k
  rw [splice_get _ _ _ (by omega), splice_get _ _ _ (by omega), ← hm, splice_length, hml, splice_get _ _ _ (by omega)]
  by_cases h1 : i * s ≤ k ∧ k < i * s + s
  · rw [if_pos h1]
    obtain ⟨r, rfl⟩ : ∃ r, k = i * s + r := ⟨k - i * s, by omega⟩
    rw [row_cell ms h i m r hi (by omega), show i * s + r - i * s = r by omega, show i * s + r - (i * s + j) = r - j by omega]
    by_cases h2 : j ≤ r ∧ r < j + vs.length
    · rw [if_pos h2, if_pos (by omega)]
    · rw [if_neg h2, if_neg (by omega)]
  · rw [if_neg h1, if_neg (by omega)]
/-! ### Rows in a block -/
section
variable {M : Type} {E : M → List Value} {s : Nat}
theorem blk_rowAt {w : World} {b e : Nat} {ms : List M} (hb : Blk w b e (ms.flatMap E)) (h : ∀ m ∈ ms, (E m).length = s) {i : Nat} {m : M} (hi : ms[i]? = some m) (K : Value → Prop) : ldRow s ⟨b, i * s, none⟩ w K = K (.agg (E m).toArray) := by
  have := hb.cs.rowEq h hi K
  rwa [add_mk, Nat.zero_add] at this
theorem blk_elemAt {w : World} {b e : Nat} {ms : List M} (hb : Blk w b e (ms.flatMap E)) (h : ∀ m ∈ ms, (E m).length = s) {i : Nat} {m : M} (hi : ms[i]? = some m) {j : Nat} (hj : j < s) : w.cell? ⟨b, i * s + j, none⟩ = (E m)[j]? := by
  rw [hb.cell]
  exact row_cell ms h i m j hi hj
theorem blk_elem0 {w : World} {b e : Nat} {ms : List M} (hb : Blk w b e (ms.flatMap E)) (h : ∀ m ∈ ms, (E m).length = s) {i : Nat} {m : M} (hi : ms[i]? = some m) (h0 : 0 < s) : w.cell? ⟨b, i * s, none⟩ = (E m)[0]? := by
  have := blk_elemAt hb h hi h0
  rwa [Nat.add_zero] at this
theorem blk_setRow {w : World} {b e : Nat} {ms : List M} {K : World → Prop} (hb : Blk w b e (ms.flatMap E)) (h : ∀ m ∈ ms, (E m).length = s) {i : Nat} (hi : i < ms.length) {m' : M} (hm : (E m').length = s) (ho : ∀ u ∈ E m', u.oneCell' = true)
    (hK : ∀ w', Wr b w w' → Blk w' b e ((ms.set i m').flatMap E) → K w') : stRow s (E m').toArray ⟨b, i * s, none⟩ w K := by
  have hf := row_fits ms h hi
  refine st_row hb (by simp [hm]) (by omega) (by simpa using ho) fun w' h1 h2 => hK w' h1 ?_
  rwa [List.toList_toArray, row_set ms h i m' hm hi] at h2
theorem set_splice (l : List Value) (j : Nat) (v : Value) (h : j < l.length) : splice l j [v] = l.set j v := by
  rw [splice_eq _ _ _ (by simp; omega), List.set_eq_take_append_cons_drop, if_pos h]
  simp
theorem blk_setElem {w : World} {b e : Nat} {ms : List M} {K : World → Prop} {v : Value} (hb : Blk w b e (ms.flatMap E)) (h : ∀ m ∈ ms, (E m).length = s) {i j : Nat} {m m' : M} (hi : ms[i]? = some m) (hj : j < s) (hm : (E m).set j v = E m') (ho : v.oneCell' = true)
    (hK : ∀ w', Wr b w w' → Blk w' b e ((ms.set i m').flatMap E) → K w') : stCell v ⟨b, i * s + j, none⟩ w K := by
  have hlt : i < ms.length := (List.getElem?_eq_some_iff.1 hi).1
  have hf := row_fits ms h hlt
  have hml := h m (List.mem_of_getElem? hi)
  refine st_cell hb (by omega) ho fun w' h1 h2 => hK w' h1 ?_
  have hp := row_part (vs := [v]) (m' := m') h hi (j := j) (by simp; omega) (by rw [set_splice _ _ _ (by omega)]; exact hm)
  rw [set_splice _ _ _ (by omega)] at hp
  rwa [hp] at h2
theorem blk_setElem0 {w : World} {b e : Nat} {ms : List M} {K : World → Prop} {v : Value} (hb : Blk w b e (ms.flatMap E)) (h : ∀ m ∈ ms, (E m).length = s) {i : Nat} {m m' : M} (hi : ms[i]? = some m) (h0 : 0 < s) (hm : (E m).set 0 v = E m') (ho : v.oneCell' = true)
    (hK : ∀ w', Wr b w w' → Blk w' b e ((ms.set i m').flatMap E) → K w') : stCell v ⟨b, i * s, none⟩ w K := by
  have := blk_setElem (K := K) hb h hi h0 hm ho hK
  rwa [Nat.add_zero] at this
end
end Go.Proofs.YtahcaplhdgphcaaGreat
