/-
  Frames: which blocks a step may turn.
-/
import Derived.Test.YtahcaplhdgphcaaGreatBd
namespace Go.Proofs.RV
open Go Go.RowKit
set_option linter.unusedSimpArgs false
set_option linter.unusedVariables false

/-- everything that was there stays, but the blocks of S -/
structure Mod (S : Nat → Prop) (w w' : World) : Prop where
  os : w'.os = w.os
  tape : w'.tape = w.tape
  output : w'.output = w.output
  size : w.heap.size ≤ w'.heap.size
  block : ∀ k, k < w.heap.size → ¬ S k → w'.heap[k]? = w.heap[k]?
section
variable {S S' : Nat → Prop} {a b c : World}
theorem Mod.refl (S : Nat → Prop) (w : World) : Mod S w w := ⟨rfl, rfl, rfl, Nat.le_refl _, fun _ _ _ => rfl⟩
/-- what comes next may turn what is new, too -/
theorem Mod.next (h : Mod S a b) (k : Mod S' b c) (hs : ∀ k, k < a.heap.size → S' k → S k) : Mod S a c :=
  ⟨k.os.trans h.os, k.tape.trans h.tape, k.output.trans h.output, Nat.le_trans h.size k.size, fun i hi hq => (k.block i (Nat.lt_of_lt_of_le hi h.size) fun hh => hq (hs i hi hh)).trans (h.block i hi hq)⟩
theorem Mod.trans (h : Mod S a b) (k : Mod S b c) : Mod S a c := h.next k fun _ _ h => h
theorem Mod.mono (h : Mod S a b) (hS : ∀ k, k < a.heap.size → S k → S' k) : Mod S' a b := ⟨h.os, h.tape, h.output, h.size, fun k hk hn => h.block k hk fun hh => hn (hS k hk hh)⟩
theorem Mod.of_more (h : More a b) : Mod S a b := ⟨h.os, h.tape, h.output, h.size, fun k hk _ => h.block k hk⟩
theorem Mod.of_wr {q : Nat} (h : Wr q a b) (hq : S q) : Mod S a b := ⟨h.os, h.tape, h.output, Nat.le_of_eq h.size.symm, fun k _ hn => h.block k fun hk => hn (hk ▸ hq)⟩
theorem Mod.of_grown {row : Option Nat} (h : a.grownBy b row) (hr : ∀ k, row = some k → S k) : Mod S a b :=
  ⟨h.os, h.tape, h.output, h.size, fun k hk hn => h.block k hk fun hh => hn (hr k hh.symm)⟩
theorem Mod.below {B : Nat} (h : Mod S a b) (hB : ∀ k, k < B → ¬ S k) (hs : B ≤ a.heap.size) : Below B a b := ⟨h.os, h.tape, h.output, h.size, fun k hk => h.block k (by omega) (hB k hk)⟩
/-- all that it turned is new since w -/
theorem Mod.more {w : World} (h : More w a) (k : Mod S a b) (hS : ∀ k, k < w.heap.size → ¬ S k) : More w b := Below.trans h (k.below hS h.size)
theorem Mod.blk {p e : Nat} {cs : List Value} (h : Mod S a b) (hb : Blk a p e cs) (hn : ¬ S p) : Blk b p e cs := (h.block p hb.lt hn).trans hb
theorem Cs.lt {w : World} {A : Option Addr} {v : Value} {cs : List Value} (h : Cs w A (v :: cs)) : ∃ x, A = some x ∧ x.block < w.heap.size := by
  obtain ⟨x, hx, hc⟩ := h 0 v rfl
  refine ⟨x, hx, ?_⟩
  rcases Nat.lt_or_ge x.block w.heap.size with h1 | h1
  · exact h1
  · unfold World.cell? at hc
    rw [add_block, Array.getElem?_eq_none h1] at hc
    cases hc
theorem Mod.cs {A : Option Addr} {cs : List Value} (h : Mod S a b) (hc : Cs a A cs) (hn : ∀ x, A = some x → ¬ S x.block) : Cs b A cs := by
  cases cs with
  | nil => exact Cs.nil _ _
  | cons v r =>
    obtain ⟨x, rfl, hx⟩ := hc.lt
    intro i u hi
    obtain ⟨y, hy, hcell⟩ := hc i u hi
    cases hy
    refine ⟨x, rfl, ?_⟩
    rw [← hcell]
    exact World.cell?_of_block (h.block _ (by rw [add_block]; exact hx) (by rw [add_block]; exact hn x rfl))
theorem Mod.own {A : Option Addr} {xs : List Value} {B e size n m : Nat} (h : Mod S a b) (ho : Own a B e size A n m xs) (hn : ∀ x, A = some x → ¬ S x.block) : Own b B e size A n m xs :=
  ho.keep fun g hA hg => h.block g hg (hn _ hA)
end
/-- block k is where A lies -/
def atB (A : Option Addr) (k : Nat) : Prop := ∃ x, A = some x ∧ x.block = k
theorem ownBlock_at {A : Option Addr} {n c k : Nat} : (Value.slice A n c).ownBlock = some k ↔ atB A k := by
  cases A <;> simp [Value.ownBlock, atB]
theorem atB_some (x : Addr) (k : Nat) : atB (some x) k ↔ x.block = k := by simp [atB]
theorem atB_none (k : Nat) : ¬ atB none k := by simp [atB]
theorem Own.atB_ge {w : World} {B e size n c k : Nat} {A : Option Addr} {xs : List Value} (h : Own w B e size A n c xs) (hk : atB A k) : B ≤ k ∧ k < w.heap.size := by
  obtain ⟨x, rfl, rfl⟩ := hk
  rcases h.blk with ⟨h1, _⟩ | ⟨g, h1, h2, h3, _⟩
  · cases h1
  · cases h1
    exact ⟨h2, h3⟩
/-- an append, by the blocks that it turns -/
theorem app_mod {P : Program} {t ty e : TypeId} {z : Value} {size bytes B n c m c2 : Nat} {A A2 : Option Addr} {xs news : List Value} {w : World} {K : Value → World → Prop} (ht : P.underlying t = some (.slice e)) (hE : ElemT P e z size bytes) (hzs : z.cells.size = size) (hsz : 0 < size)
    (hown : Own w B e size A n c xs) (hsrc : Cs w A2 news) (hl : news.length = m * size) (h1 : ∀ u ∈ news, u.oneCell' = true) (h63 : n + m ≤ maxLen) (hbytes : (n + m) * bytes ≤ 140737488355328) (hB : B ≤ w.heap.size)
    (hK : ∀ A' c' w', Own w' B e size A' (n + m) c' (xs ++ news) → Mod (atB A) w w' → (∀ k, atB A' k → atB A k ∨ k = w.heap.size) → K (.slice A' (n + m) c') w') :
    runP P (Builtin.append_ #[t, t] ty #[.slice A n c, .slice A2 m c2]) w K := by
  refine app_own ht hE hzs hsz hown hsrc hl h1 h63 hbytes hB fun A' c' w' ho hg hat => hK A' c' w' ho (Mod.of_grown hg fun k hk => ownBlock_at.1 hk) fun k hk => ?_
  rcases hat with h | h
  · left
    exact (ownBlock_at (n := n) (c := c)).1 (by rw [← h]; exact ownBlock_at.2 hk)
  · right
    have := (ownBlock_at (n := n + m) (c := c')).2 hk
    rw [this] at h
    exact Option.some.inj h
end Go.Proofs.RV
