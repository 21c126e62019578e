/-
  Rows of elements of several cells each.
-/
import Derived.Test.YtgbhgjghlnknjaaLa
import Derived.Test.YtgbhgjghlnknjaaFi
namespace Go.Proofs.RV
open Go Go.RowKit
set_option linter.unusedSimpArgs false
set_option linter.unusedVariables false

section
variable {M : Type} {E : M → List Value} {s : Nat}
theorem row_len (h : ∀ m, (E m).length = s) : ∀ ms : List M, (ms.flatMap E).length = ms.length * s
  | [] => by simp
  | m :: ms => by rw [List.flatMap_cons, List.length_append, h, row_len h ms, List.length_cons, Nat.succ_mul, Nat.add_comm]
theorem row_cell (h : ∀ m, (E m).length = s) : ∀ (ms : List M) (i : Nat) (m : M) (j : Nat), ms[i]? = some m → j < s → (ms.flatMap E)[i * s + j]? = (E m)[j]?
  | [], i, m, j, hi, _ => by simp at hi
  | x :: ms, 0, m, j, hi, hj => by
    simp only [List.getElem?_cons_zero, Option.some.injEq] at hi
    subst hi
    rw [List.flatMap_cons, Nat.zero_mul, Nat.zero_add, List.getElem?_append_left (by rw [h]; exact hj)]
  | x :: ms, i + 1, m, j, hi, hj => by
    rw [List.flatMap_cons, List.getElem?_append_right (by rw [h, Nat.succ_mul]; omega), h, show (i + 1) * s + j - s = i * s + j by rw [Nat.succ_mul]; omega]
    exact row_cell h ms i m j (by simpa using hi) hj
theorem row_find (h : ∀ m, (E m).length = s) (h0 : 0 < s) : ∀ (ms : List M) (k : Nat) (v : Value), (ms.flatMap E)[k]? = some v → ∃ i m j, ms[i]? = some m ∧ j < s ∧ k = i * s + j ∧ (E m)[j]? = some v
  | [], k, v, hk => by simp at hk
  | x :: ms, k, v, hk => by
    rw [List.flatMap_cons] at hk
    rcases Nat.lt_or_ge k s with h1 | h1
    · rw [List.getElem?_append_left (by rw [h]; exact h1)] at hk
      exact ⟨0, x, k, rfl, h1, by omega, hk⟩
    · rw [List.getElem?_append_right (by rw [h]; exact h1), h] at hk
      obtain ⟨i, m, j, h2, h3, h4, h5⟩ := row_find h h0 ms (k - s) v hk
      exact ⟨i + 1, m, j, by simpa using h2, h3, by rw [Nat.succ_mul]; omega, h5⟩
/-- a row's cell -/
theorem Cs.elem {w : World} {A : Option Addr} {ms : List M} (hc : Cs w A (ms.flatMap E)) (h : ∀ m, (E m).length = s) {i : Nat} {m : M} (hi : ms[i]? = some m) {j : Nat} (hj : j < s) : ∃ a, A = some a ∧ w.cell? (a.add (i * s + j)) = (E m)[j]? := by
  have h1 := row_cell h ms i m j hi hj
  have h2 : j < (E m).length := by rw [h]; exact hj
  rw [List.getElem?_eq_getElem h2] at h1 ⊢
  exact hc _ _ h1
theorem Cs.elemA {w : World} {a : Addr} {ms : List M} (hc : Cs w (some a) (ms.flatMap E)) (h : ∀ m, (E m).length = s) {i : Nat} {m : M} (hi : ms[i]? = some m) {j : Nat} (hj : j < s) : w.cell? ((a.add (i * s)).add j) = (E m)[j]? := by
  obtain ⟨b, hb, hcell⟩ := hc.elem h hi hj
  cases hb
  rw [add_add]
  exact hcell
theorem Cs.elemZ {w : World} {a : Addr} {ms : List M} (hc : Cs w (some a) (ms.flatMap E)) (h : ∀ m, (E m).length = s) {i : Nat} {m : M} (hi : ms[i]? = some m) (h0 : 0 < s) : w.cell? (a.add (i * s)) = (E m)[0]? := by
  obtain ⟨b, hb, hcell⟩ := hc.elem h hi h0
  cases hb
  exact hcell
theorem Cs.some_of {w : World} {A : Option Addr} {cs : List Value} (hc : Cs w A cs) (h : 0 < cs.length) : ∃ a, A = some a := by
  cases cs with
  | nil => simp at h
  | cons v r => obtain ⟨x, hx, _⟩ := hc 0 v rfl; exact ⟨x, hx⟩
theorem Cs.rowTake {w : World} {A : Option Addr} {ms : List M} (hc : Cs w A (ms.flatMap E)) (h : ∀ m, (E m).length = s) (k : Nat) : Cs w A ((ms.take k).flatMap E) := by
  intro i v hi
  have : (ms.flatMap E)[i]? = some v := by
    conv => lhs; rw [← List.take_append_drop k ms]
    rw [List.flatMap_append, List.getElem?_append_left (List.getElem?_eq_some_iff.1 hi).1]
    exact hi
  exact hc i v this
theorem Cs.rowDrop {w : World} {A : Option Addr} {ms : List M} {c : Nat} (hc : Cs w A (ms.flatMap E)) (h : ∀ m, (E m).length = s) (hl : ms.length ≤ c) (k : Nat) : Cs w (RV.adv A c k s) ((ms.drop k).flatMap E) := by
  intro i v hi
  unfold RV.adv
  have hk : k < ms.length := by
    rcases Nat.lt_or_ge k ms.length with h1 | h1
    · exact h1
    · rw [List.drop_eq_nil_of_le h1] at hi; simp at hi
  rw [if_neg (by omega)]
  have : (ms.flatMap E)[k * s + i]? = some v := by
    conv => lhs; rw [← List.take_append_drop k ms]
    rw [List.flatMap_append, List.getElem?_append_right (by rw [row_len h, List.length_take, Nat.min_eq_left (by omega)]; omega), row_len h, List.length_take, Nat.min_eq_left (by omega), show k * s + i - k * s = i by omega]
    exact hi
  obtain ⟨a, rfl, hcell⟩ := hc _ v this
  exact ⟨_, rfl, by rw [add_add]; exact hcell⟩
theorem row_nat {p : M → Bool} (ms : List M) (i : Nat) (h : i < ms.length) : ∃ m, ms[i]? = some m := ⟨ms[i], List.getElem?_eq_getElem h⟩
/-- a row that came in -/
theorem Lays.rowOf {P : Program} {w : World} {n : Nat} {t e : TypeId} {cs : List Value} (h : Lays P w n t cs) (ht : P.underlying t = some (.slice e)) (he : P.cellsOf e = s) (h0 : 0 < s) (hE : ∀ m, (E m).length = s) (F : M → Prop)
    (hr : ∀ k cs', Lays P w k e cs' → cs'.length = s → ∃ m, cs' = E m ∧ F m) :
    ∃ (A : Option Addr) (ms : List M) (c : Nat), cs = [.slice A ms.length c] ∧ ms.length ≤ c ∧ Cs w A (ms.flatMap E) ∧ ∀ m ∈ ms, F m := by
  rcases h.slice ht with rfl | ⟨a, len, cap, rfl, h2, h3, h4⟩
  · exact ⟨none, [], 0, rfl, Nat.le_refl _, Cs.nil _ _, by simp⟩
  · obtain ⟨ms, h5, h6⟩ := rows_of (E := fun (m : M) cs' => cs' = E m ∧ F m) (w := w) (a := a) (s := s) len 0 fun i hi => by
      obtain ⟨cs', h7, h8, j, h9⟩ := h4 i hi
      rw [he] at h7 h8
      obtain ⟨m, hm⟩ := hr j cs' h9 h7
      exact ⟨cs', by simpa using h8, m, hm⟩
    refine ⟨some a, ms, cap, by rw [h5], by omega, fun i v hi => ?_, fun m hm => ?_⟩
    · obtain ⟨k, m, j, h7, h8, rfl, h9⟩ := row_find hE h0 ms i v hi
      obtain ⟨cs', h10, rfl, _⟩ := h6 k m h7
      refine ⟨a, rfl, ?_⟩
      have := h10 j v h9
      simpa using this
    · obtain ⟨i, hi⟩ := List.getElem?_of_mem hm
      obtain ⟨_, _, _, hr⟩ := h6 i m hi
      exact hr
end
/-- numbers one after the other, as an array -/
theorem flat_ints {P : Program} {T e : TypeId} {n m : Nat} {k : IntKind} {l : List Int} (hT : P.underlying T = some (.array m e)) (he : P.underlying e = some (.int k)) (h1 : P.cellsOf e = 1) (hl : l.length = m) : Flat P (n + 2) T (l.map (Value.int k)) := by
  unfold Flat
  rw [hT]
  refine ⟨by omega, l.map fun x => [Value.int k x], by simpa using hl, ?_, ?_⟩
  · have : ∀ l : List Int, l.map (Value.int k) = (l.map fun x => [Value.int k x]).flatten := by
      intro l
      induction l with
      | nil => rfl
      | cons b l ih => simp [ih]
    exact this l
  · intro c hc
    obtain ⟨b, _, rfl⟩ := List.mem_map.1 hc
    exact ⟨by simp [h1], flat_int he b⟩
/-! ### Facts of operations in drawn regions -/
def IsV (u : Value) (v : Value) (_ : World) : Prop := v = u
def BsF (l : List UInt8) (v : Value) (w : World) : Prop := ∃ A c, v = .slice A l.length c ∧ Bs w A l
theorem keepsV (u : Value) : Keeps (IsV u) := fun _ _ _ _ h => h
theorem keepsB (l : List UInt8) : Keeps (BsF l) := fun _ _ _ h ⟨A, c, e, hB⟩ => ⟨A, c, e, hB.more h⟩
theorem stCell_mono {v : Value} {a : Addr} {w : World} {K K' : World → Prop} (h : stCell v a w K) (hK : ∀ w', K w' → K' w') : stCell v a w K' := ⟨h.1, h.2.1, h.2.2.1, hK _ h.2.2.2⟩
/-- what comes behind a region gets a name -/
theorem draw_name {P : Program} {id : Nat} {ops : Array Oper} {e : Env} {w : World} {K : Env → World → Prop} (h : ∀ K' : Env → World → Prop, (∀ e w, K e w → K' e w) → drawP P id ops e w K') : drawP P id ops e w K := h K fun _ _ h => h
end Go.Proofs.RV
