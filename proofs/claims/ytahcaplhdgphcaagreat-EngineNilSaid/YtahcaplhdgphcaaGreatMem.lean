/-
  Words for memory: cells at an address, bytes, blocks that are known whole, rows of the call's own; what an operation asks, in these words.
-/
import Derived.Test.YtahcaplhdgphcaaGreatRg
import Derived.Laws.OwnMore
import Derived.Maps.AppendAt
import Derived.Deep.AppendLies
namespace Go.Proofs.RV
open Go Go.RowKit
set_option linter.unusedSimpArgs false

/-! ### Addresses -/
theorem add_mk (b o n : Nat) : (⟨b, o, none⟩ : Addr).add n = ⟨b, o + n, none⟩ := by
  unfold Addr.add
  split
  · rename_i h; subst h; rfl
  · rfl
theorem add_add (a : Addr) (i j : Nat) : (a.add i).add j = a.add (i + j) := by
  unfold Addr.add
  by_cases hi : i = 0 <;> by_cases hj : j = 0 <;> simp [hi, hj, Nat.add_assoc]

/-! ### Bytes -/
def byteV (b : UInt8) : Value := .int .u8 b.toNat
/-- byte i of l, as a number -/
def bt (l : List UInt8) (i : Nat) : Int := ((l.getD i 0).toNat : Int)
theorem bt_nonneg (l : List UInt8) (i : Nat) : 0 ≤ bt l i := Int.natCast_nonneg _
theorem bt_lt (l : List UInt8) (i : Nat) : bt l i < 256 := by
  unfold bt
  have := (l.getD i 0).toNat_lt
  omega
theorem byteV_bt {l : List UInt8} {i : Nat} (h : i < l.length) : (l.map byteV)[i]? = some (.int .u8 (bt l i)) := by
  rw [List.getElem?_map, List.getElem?_eq_getElem h]
  simp [byteV, bt, List.getD_eq_getElem?_getD, List.getElem?_eq_getElem h]
theorem byteV_one (l : List UInt8) : ∀ u ∈ l.map byteV, u.oneCell' = true := by
  intro u hu
  obtain ⟨b, _, rfl⟩ := List.mem_map.1 hu
  rfl

/-! ### Cells at an address -/
def Cs (w : World) (A : Option Addr) (cs : List Value) : Prop := ∀ (i : Nat) (v : Value), cs[i]? = some v → ∃ a, A = some a ∧ w.cell? (a.add i) = some v
abbrev Bs (w : World) (A : Option Addr) (l : List UInt8) : Prop := Cs w A (l.map byteV)
theorem Cs.more {w w' : World} {A : Option Addr} {cs : List Value} (h : Cs w A cs) (hm : More w w') : Cs w' A cs := by
  intro i v hi
  obtain ⟨a, ha, hc⟩ := h i v hi
  exact ⟨a, ha, cell_later hm hc⟩
theorem adv_zero (A : Option Addr) (c s : Nat) : adv A c 0 s = A := by
  unfold adv
  split
  · rfl
  · cases A with
    | none => rfl
    | some a => simp [Addr.add]
theorem Cs.nil (w : World) (A : Option Addr) : Cs w A [] := fun i v h => by simp at h
theorem Cs.take {w : World} {A : Option Addr} {cs : List Value} (h : Cs w A cs) (k : Nat) : Cs w A (cs.take k) := by
  intro i v hi
  rw [List.getElem?_take] at hi
  split at hi
  · exact h i v hi
  · cases hi
theorem Cs.adv {w : World} {A : Option Addr} {cs : List Value} {c k : Nat} (h : Cs w A cs) (hc : cs.length ≤ c) : Cs w (adv A c k 1) (cs.drop k) := by
  intro i v hi
  unfold RV.adv
  by_cases hck : c = k
  · rw [List.drop_eq_nil_of_le (by omega)] at hi
    simp at hi
  · rw [if_neg hck]
    rw [List.getElem?_drop] at hi
    obtain ⟨a, rfl, hcell⟩ := h (k + i) v hi
    exact ⟨a.add (k * 1), rfl, by rw [add_add, Nat.mul_one]; exact hcell⟩
theorem Cs.takeB {w : World} {A : Option Addr} {l : List UInt8} (h : Bs w A l) (k : Nat) : Bs w A (l.take k) := by
  have := Cs.take h k
  rwa [← List.map_take] at this
theorem Cs.advB {w : World} {A : Option Addr} {l : List UInt8} {c k : Nat} (h : Bs w A l) (hc : l.length ≤ c) : Bs w (RV.adv A c k 1) (l.drop k) := by
  have := Cs.adv (k := k) h (by simpa using hc)
  rwa [← List.map_drop] at this
/-- an element's address, and what lies there -/
theorem Cs.at_ {w : World} {A : Option Addr} {l : List UInt8} (h : Bs w A l) {i : Nat} (hi : i < l.length) : ∃ a, A = some a ∧ w.cell? (a.add i) = some (.int .u8 (bt l i)) := h i _ (byteV_bt hi)
/-- 'l[j]', as an operation asks it: the address, then the byte -/
theorem Cs.idx {w : World} {A : Option Addr} {l : List UInt8} (h : Bs w A l) {j : Int} (h0 : 0 ≤ j) (h1 : j < l.length) {K : Addr → Int → Prop} (hK : ∀ a, K a (bt l j.toNat)) :
    ∃ a, A = some a ∧ ∃ x, w.cell? (a.add j.toNat) = some (.int .u8 x) ∧ K a x := by
  obtain ⟨a, ha, hc⟩ := h.at_ (i := j.toNat) (by omega)
  exact ⟨a, ha, _, hc, hK a⟩

theorem Cs.idxN {w : World} {A : Option Addr} {l : List UInt8} (h : Bs w A l) {i : Nat} (hi : i < l.length) {K : Addr → Int → Prop} (hK : ∀ a, K a (bt l i)) :
    ∃ a, A = some a ∧ ∃ x, w.cell? (a.add i) = some (.int .u8 x) ∧ K a x := by
  obtain ⟨a, ha, hc⟩ := h.at_ hi
  exact ⟨a, ha, _, hc, hK a⟩

/-! ### Blocks that are known whole -/
/-- block b is the cells cs, of element type e -/
def Blk (w : World) (b : Nat) (e : TypeId) (cs : List Value) : Prop := w.heap[b]? = some (.cells cs.toArray e (0, 0))
theorem Blk.lt {w : World} {b : Nat} {e : TypeId} {cs : List Value} (h : Blk w b e cs) : b < w.heap.size := (Array.getElem?_eq_some_iff.1 h).1
theorem Blk.cell {w : World} {b : Nat} {e : TypeId} {cs : List Value} (h : Blk w b e cs) (i : Nat) : w.cell? ⟨b, i, none⟩ = cs[i]? := by
  unfold Blk at h
  simp [World.cell?, h]
theorem Blk.frozen {w : World} {b : Nat} {e : TypeId} {cs : List Value} (h : Blk w b e cs) (i : Nat) : w.frozen? ⟨b, i, none⟩ = false := by
  unfold Blk at h
  simp [World.frozen?, h]
theorem Blk.ne {w : World} {b b' : Nat} {e e' : TypeId} {cs cs' : List Value} (h : Blk w b e cs) (h' : Blk w b' e' cs') (hne : e ≠ e') : b ≠ b' := by
  rintro rfl
  unfold Blk at h h'
  rw [h] at h'
  injection h' with h'
  injection h' with _ h'
  exact hne h'
theorem Blk.new (w : World) (e : TypeId) (cs : Array Value) : Blk (w.alloc (.cells cs e)) w.heap.size e cs.toList := by
  unfold Blk
  rw [heap_alloc_new]
theorem Blk.more {w w' : World} {b : Nat} {e : TypeId} {cs : List Value} (h : Blk w b e cs) (hm : More w w') : Blk w' b e cs := (hm.block b h.lt).trans h
theorem Blk.below {B : Nat} {w w' : World} {b : Nat} {e : TypeId} {cs : List Value} (h : Blk w b e cs) (hm : Below B w w') (hb : b < B) : Blk w' b e cs := (hm.block b hb).trans h
theorem Blk.cs {w : World} {b : Nat} {e : TypeId} {cs : List Value} (h : Blk w b e cs) : Cs w (some ⟨b, 0, none⟩) cs := by
  intro i v hi
  exact ⟨_, rfl, by rw [add_mk, Nat.zero_add, h.cell i]; exact hi⟩
theorem more_alloc (w : World) (o : Obj) : More w (w.alloc o) := (Below.refl _ _).alloc (Nat.le_refl _) o
theorem size_alloc (w : World) (o : Obj) : (w.alloc o).heap.size = w.heap.size + 1 := by
  show (w.heap.push o).size = _
  simp

/-- nothing but block b has turned -/
structure Wr (b : Nat) (w w' : World) : Prop where
  os : w'.os = w.os
  tape : w'.tape = w.tape
  output : w'.output = w.output
  size : w'.heap.size = w.heap.size
  block : ∀ k, k ≠ b → w'.heap[k]? = w.heap[k]?
theorem Wr.refl (b : Nat) (w : World) : Wr b w w := ⟨rfl, rfl, rfl, rfl, fun _ _ => rfl⟩
theorem Wr.trans {b : Nat} {w w' w'' : World} (h : Wr b w w') (k : Wr b w' w'') : Wr b w w'' :=
  ⟨k.os.trans h.os, k.tape.trans h.tape, k.output.trans h.output, k.size.trans h.size, fun i hi => (k.block i hi).trans (h.block i hi)⟩
theorem Wr.blk {b c : Nat} {w w' : World} {e : TypeId} {cs : List Value} (h : Wr b w w') (hk : Blk w c e cs) (hne : c ≠ b) : Blk w' c e cs := (h.block c hne).trans hk
theorem Wr.below {B b : Nat} {a w w' : World} (hb : Below B a w) (h : Wr b w w') (hB : B ≤ b) : Below B a w' :=
  hb.trans ⟨h.os, h.tape, h.output, Nat.le_of_eq h.size.symm, fun k hk => h.block k (by omega)⟩
theorem Wr.cs {b : Nat} {w w' : World} {A : Option Addr} {cs : List Value} (h : Wr b w w') (hk : Cs w A cs) (hne : ∀ a, A = some a → a.block ≠ b) : Cs w' A cs := by
  intro i v hi
  obtain ⟨a, ha, hc⟩ := hk i v hi
  refine ⟨a, ha, ?_⟩
  rw [← hc]
  exact World.cell?_of_block (h.block _ (by rw [add_block]; exact hne a ha))
theorem wr_setCell (w : World) (b i : Nat) (v : Value) : Wr b w (w.setCell ⟨b, i, none⟩ v) :=
  ⟨rfl, rfl, rfl, by simp [World.setCell], fun k hk => by simp [World.setCell, Array.getElem?_modify, hk.symm]⟩
theorem Blk.set {w : World} {b : Nat} {e : TypeId} {cs : List Value} (h : Blk w b e cs) (i : Nat) (v : Value) : Blk (w.setCell ⟨b, i, none⟩ v) b e (cs.set i v) := by
  unfold Blk at h ⊢
  simp [World.setCell, Array.getElem?_modify, h]
/-- xs, with vs from place i on -/
def splice (xs : List Value) : Nat → List Value → List Value
  | _, [] => xs
  | i, v :: r => splice (xs.set i v) (i + 1) r
theorem splice_eq : ∀ (vs xs : List Value) (i : Nat), i + vs.length ≤ xs.length → splice xs i vs = xs.take i ++ vs ++ xs.drop (i + vs.length)
  | [], xs, i, h => by simp [splice]
  | v :: r, xs, i, h => by
    have hi : i < xs.length := by simp at h; omega
    rw [splice, splice_eq r _ (i + 1) (by simp at h ⊢; omega)]
    have h1 : (xs.set i v).take (i + 1) = xs.take i ++ [v] := by
      rw [List.take_set]
      rw [List.set_eq_take_append_cons_drop]
      simp
      rw [if_pos (by omega)]
      rw [List.take_take, Nat.min_eq_left (by omega)]
    have h2 : (xs.set i v).drop (i + 1 + r.length) = xs.drop (i + 1 + r.length) := by
      rw [List.drop_set_of_lt (by omega)]
    rw [h1, h2]
    simp [Nat.add_assoc, Nat.add_comm 1]
theorem splice_length : ∀ (vs xs : List Value) (i : Nat), (splice xs i vs).length = xs.length
  | [], xs, i => rfl
  | v :: r, xs, i => by rw [splice, splice_length r]; simp
theorem wr_setCells (b : Nat) : ∀ (vs : List Value) (i : Nat) (w : World), Wr b w (w.setCells b i vs)
  | [], i, w => Wr.refl b w
  | v :: r, i, w => by
    rw [World.setCells]
    exact (wr_setCell w b i v).trans (wr_setCells b r (i + 1) _)
theorem Blk.sets {b : Nat} {e : TypeId} : ∀ (vs : List Value) (i : Nat) (w : World) (cs : List Value), Blk w b e cs → Blk (w.setCells b i vs) b e (splice cs i vs)
  | [], i, w, cs, h => h
  | v :: r, i, w, cs, h => by
    rw [World.setCells, splice]
    exact Blk.sets r (i + 1) _ _ (h.set i v)
end Go.Proofs.RV
