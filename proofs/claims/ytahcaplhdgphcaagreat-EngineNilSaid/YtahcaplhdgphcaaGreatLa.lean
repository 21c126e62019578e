/-
  What came in, read by its type: cells, and rows behind slices.
-/
import Derived.Test.YtahcaplhdgphcaaGreatStr
import Derived.ChangeArms
import Derived.OpenShut
import Derived.Deep.Slices
import Derived.SizedLaws
namespace Go.Proofs.RV
open Go Go.RowKit Go.ChangeShapes Go.WideShapes
set_option linter.unusedSimpArgs false
set_option linter.unusedVariables false

def Lays (P : Program) (w : World) : Nat → TypeId → List Value → Prop
  | 0, _, _ => False
  | n + 1, t, cs =>
    match P.underlying t with
    | some .bool => ∃ b, cs = [.bool b]
    | some (.int k) => ∃ x, cs = [.int k x] ∧ (Lit.int k x).wf = true
    | some .string => ∃ s : ByteArray, cs = [.string s] ∧ s.size ≤ maxLen
    | some (.slice e) => cs = [.slice none 0 0] ∨ ∃ (a : Addr) (len cap : Nat), cs = [.slice (some a) len cap] ∧ len ≤ cap ∧ cap ≤ maxLen ∧
        ∀ i, i < len → ∃ cs' : List Value, cs'.length = P.cellsOf e ∧ (∀ j u, cs'[j]? = some u → w.cell? (a.add (i * P.cellsOf e + j)) = some u) ∧ Lays P w n e cs'
    | some (.struct fs) => cs.length = P.cellsOf t ∧ ∀ (i : Nat) (f : Field), fs[i]? = some f → Lays P w n f.type ((cs.drop f.offset).take (P.cellsOf f.type))
    | some (.array m e) => cs.length = P.cellsOf t ∧ ∀ i, i < m → Lays P w n e ((cs.drop (i * P.cellsOf e)).take (P.cellsOf e))
    | _ => True
section
variable {H : Type} {enc : TypeId × Value → H} {P : Program} {w : World} {base : Nat} {spare : Nat → Bool} {held : Bool}
theorem lays_of_trod : ∀ (n : Nat) (t : TypeId) (cs : List Value) (x : DataW H × List MemPlace), DataW.trod enc P w base spare held n t cs = some x → Lays P w n t cs
  | 0, t, cs, x, h => by simp [DataW.trod] at h
  | n + 1, t, cs, x, h => by
    unfold Lays
    split
    · rename_i ht
      obtain ⟨b, hb, _⟩ := DataW.trod_bool ht h
      exact ⟨b, hb⟩
    · rename_i k ht
      obtain ⟨y, hy, _, hw⟩ := DataW.trod_int ht h
      exact ⟨y, hy, hw⟩
    · rename_i ht
      obtain ⟨s, hs, _, hl⟩ := DataW.trod_string ht h
      exact ⟨s, hs, hl⟩
    · rename_i e ht
      rcases DataW.trod_slice ht h with ⟨h1, _⟩ | ⟨a, len, cap, elems, rest, m, hm, h1, _, _, h2, h3, h4, h5, _⟩
      · exact .inl h1
      · injection hm with hm
        subst hm
        refine .inr ⟨a, len, cap, h1, h2, h3, fun i hi => ?_⟩
        have h6 := h5 i hi
        rw [List.getElem?_eq_getElem (by omega)] at h6
        simp only [Option.bind_eq_some_iff] at h6
        obtain ⟨cs', h7, h8⟩ := h6
        obtain ⟨_, hl, hc⟩ := World.cells?_some h7
        refine ⟨cs', hl, fun j u hu => ?_, lays_of_trod n e cs' _ h8⟩
        have h9 := hc j (by rw [← hl]; exact (List.getElem?_eq_some_iff.1 hu).1)
        rw [hu, add_add] at h9
        exact h9
    · rename_i fs ht
      obtain ⟨xs, m, hm, _, hl, hx, hf⟩ := DataW.trod_struct ht h
      injection hm with hm
      subst hm
      refine ⟨hl, fun i f hi => ?_⟩
      have h6 := hf i f hi
      have hlt := (Array.getElem?_eq_some_iff.1 hi).1
      rw [List.getElem?_eq_getElem (by omega)] at h6
      exact lays_of_trod n _ _ _ h6
    · rename_i m e ht
      obtain ⟨xs, k, hk, _, hl, hx, hf⟩ := DataW.trod_array ht h
      injection hk with hk
      subst hk
      refine ⟨hl, fun i hi => ?_⟩
      have h6 := hf i hi
      rw [List.getElem?_eq_getElem (by omega)] at h6
      exact lays_of_trod n _ _ _ h6
    · trivial
end
section
variable {P : Program} {w : World} {n : Nat} {t : TypeId} {cs : List Value}
theorem Lays.bool (h : Lays P w n t cs) (ht : P.underlying t = some .bool) : ∃ b, cs = [.bool b] := by
  cases n with
  | zero => exact h.elim
  | succ n => unfold Lays at h; rw [ht] at h; exact h
theorem Lays.int {k : IntKind} (h : Lays P w n t cs) (ht : P.underlying t = some (.int k)) : ∃ x, cs = [.int k x] ∧ k.min ≤ x ∧ x ≤ k.max := by
  cases n with
  | zero => exact h.elim
  | succ n =>
    unfold Lays at h
    rw [ht] at h
    obtain ⟨x, hx, hw⟩ := h
    exact ⟨x, hx, by simpa [Lit.wf] using hw⟩
theorem Lays.string (h : Lays P w n t cs) (ht : P.underlying t = some .string) : ∃ s : ByteArray, cs = [.string s] ∧ s.size ≤ maxLen := by
  cases n with
  | zero => exact h.elim
  | succ n => unfold Lays at h; rw [ht] at h; exact h
/-- a struct's field -/
theorem Lays.field {fs : Array Field} (h : Lays P w n t cs) (ht : P.underlying t = some (.struct fs)) : cs.length = P.cellsOf t ∧ ∀ (i : Nat) (f : Field), fs[i]? = some f → ∃ m, Lays P w m f.type ((cs.drop f.offset).take (P.cellsOf f.type)) := by
  cases n with
  | zero => exact h.elim
  | succ n =>
    unfold Lays at h
    rw [ht] at h
    exact ⟨h.1, fun i f hi => ⟨n, h.2 i f hi⟩⟩
theorem Lays.fieldAt {fs : Array Field} (h : Lays P w n t cs) (ht : P.underlying t = some (.struct fs)) (i T off : Nat) {sz : Nat} (hf : (fs[i]?).map (fun f => (f.type, f.offset)) = some (T, off)) (hc : P.cellsOf T = sz) : ∃ m, Lays P w m T ((cs.drop off).take sz) := by
  cases hi : fs[i]? with
  | none => rw [hi] at hf; cases hf
  | some f =>
    rw [hi] at hf
    simp only [Option.map_some, Option.some.injEq, Prod.mk.injEq] at hf
    obtain ⟨rfl, rfl⟩ := hf
    rw [← hc]
    exact (h.field ht).2 i f hi
theorem Lays.elem {m e : Nat} (h : Lays P w n t cs) (ht : P.underlying t = some (.array m e)) : cs.length = P.cellsOf t ∧ ∀ i, i < m → ∃ k, Lays P w k e ((cs.drop (i * P.cellsOf e)).take (P.cellsOf e)) := by
  cases n with
  | zero => exact h.elim
  | succ n =>
    unfold Lays at h
    rw [ht] at h
    exact ⟨h.1, fun i hi => ⟨n, h.2 i hi⟩⟩
theorem Lays.slice {e : TypeId} (h : Lays P w n t cs) (ht : P.underlying t = some (.slice e)) : cs = [.slice none 0 0] ∨ ∃ (a : Addr) (len cap : Nat), cs = [.slice (some a) len cap] ∧ len ≤ cap ∧ cap ≤ maxLen ∧
        ∀ i, i < len → ∃ cs' : List Value, cs'.length = P.cellsOf e ∧ (∀ j u, cs'[j]? = some u → w.cell? (a.add (i * P.cellsOf e + j)) = some u) ∧ ∃ k, Lays P w k e cs' := by
  cases n with
  | zero => exact h.elim
  | succ n =>
    unfold Lays at h
    rw [ht] at h
    rcases h with h | ⟨a, len, cap, h1, h2, h3, h4⟩
    · exact .inl h
    · exact .inr ⟨a, len, cap, h1, h2, h3, fun i hi => by obtain ⟨cs', h5, h6, h7⟩ := h4 i hi; exact ⟨cs', h5, h6, n, h7⟩⟩
/-- numbers one after the other -/
theorem ints_of {k : IntKind} : ∀ (m : Nat) (cs : List Value), cs.length = m → (∀ i, i < m → ∃ x, (cs.drop i).take 1 = [.int k x] ∧ k.min ≤ x ∧ x ≤ k.max) → ∃ l : List Int, l.length = m ∧ cs = l.map (Value.int k) ∧ ∀ x ∈ l, k.min ≤ x ∧ x ≤ k.max
  | 0, cs, hl, _ => ⟨[], rfl, by simpa using hl, by simp⟩
  | m + 1, [], hl, _ => by simp at hl
  | m + 1, v :: cs, hl, h => by
    obtain ⟨l, h1, h2, h3⟩ := ints_of m cs (by simpa using hl) fun i hi => by simpa using h (i + 1) (by omega)
    obtain ⟨x, hx, hr⟩ := h 0 (by omega)
    simp only [List.drop_zero, List.take_succ_cons, List.take_zero, List.cons.injEq, and_true] at hx
    subst hx h2
    exact ⟨x :: l, by simpa using h1, rfl, by simpa using ⟨hr, h3⟩⟩
theorem Lays.ints {m e : Nat} {k : IntKind} (h : Lays P w n t cs) (ht : P.underlying t = some (.array m e)) (he : P.underlying e = some (.int k)) (h1 : P.cellsOf e = 1) (hc : P.cellsOf t = m) : ∃ l : List Int, l.length = m ∧ cs = l.map (Value.int k) ∧ ∀ x ∈ l, k.min ≤ x ∧ x ≤ k.max := by
  obtain ⟨h2, h3⟩ := h.elem ht
  refine ints_of m cs (by omega) fun i hi => ?_
  obtain ⟨j, h4⟩ := h3 i hi
  rw [h1, Nat.mul_one] at h4
  exact h4.int he
theorem bools_of : ∀ (m : Nat) (cs : List Value), cs.length = m → (∀ i, i < m → ∃ x, (cs.drop i).take 1 = [.bool x]) → ∃ l : List Bool, l.length = m ∧ cs = l.map Value.bool
  | 0, cs, hl, _ => ⟨[], rfl, by simpa using hl⟩
  | m + 1, [], hl, _ => by simp at hl
  | m + 1, v :: cs, hl, h => by
    obtain ⟨l, h1, h2⟩ := bools_of m cs (by simpa using hl) fun i hi => by simpa using h (i + 1) (by omega)
    obtain ⟨x, hx⟩ := h 0 (by omega)
    simp only [List.drop_zero, List.take_succ_cons, List.take_zero, List.cons.injEq, and_true] at hx
    subst hx h2
    exact ⟨x :: l, by simpa using h1, rfl⟩
theorem Lays.bools {m e : Nat} (h : Lays P w n t cs) (ht : P.underlying t = some (.array m e)) (he : P.underlying e = some .bool) (h1 : P.cellsOf e = 1) (hc : P.cellsOf t = m) : ∃ l : List Bool, l.length = m ∧ cs = l.map Value.bool := by
  obtain ⟨h2, h3⟩ := h.elem ht
  refine bools_of m cs (by omega) fun i hi => ?_
  obtain ⟨j, h4⟩ := h3 i hi
  rw [h1, Nat.mul_one] at h4
  exact h4.bool he
theorem bytes_of (l : List Int) (h : ∀ x ∈ l, IntKind.u8.min ≤ x ∧ x ≤ IntKind.u8.max) : l.map (Value.int .u8) = (l.map u8).map byteV := by
  rw [List.map_map]
  refine List.map_congr_left fun x hx => ?_
  have := h x hx
  simp [IntKind.min, IntKind.max, IntKind.signed, IntKind.bits] at this
  exact (byteV_u8 (by omega) (by omega)).symm
theorem Lays.bytes {m e : Nat} (h : Lays P w n t cs) (ht : P.underlying t = some (.array m e)) (he : P.underlying e = some (.int .u8)) (h1 : P.cellsOf e = 1) (hc : P.cellsOf t = m) : ∃ l : List UInt8, l.length = m ∧ cs = l.map byteV := by
  obtain ⟨l, h2, h3, h4⟩ := h.ints ht he h1 hc
  exact ⟨l.map u8, by simpa using h2, by rw [h3, bytes_of l h4]⟩
/-- a row of what each element is -/
theorem rows_of {M : Type} {E : M → List Value → Prop} {a : Addr} {s : Nat} : ∀ (len i0 : Nat), (∀ i, i < len → ∃ cs' : List Value, (∀ j u, cs'[j]? = some u → w.cell? (a.add ((i0 + i) * s + j)) = some u) ∧ ∃ m, E m cs') →
    ∃ ms : List M, ms.length = len ∧ ∀ (i : Nat) (m : M), ms[i]? = some m → ∃ cs' : List Value, (∀ j u, cs'[j]? = some u → w.cell? (a.add ((i0 + i) * s + j)) = some u) ∧ E m cs'
  | 0, i0, _ => ⟨[], rfl, by simp⟩
  | len + 1, i0, h => by
    obtain ⟨ms, h1, h2⟩ := rows_of len (i0 + 1) fun i hi => by
      have := h (i + 1) (by omega)
      rwa [show i0 + (i + 1) = i0 + 1 + i by omega] at this
    obtain ⟨cs', h3, m, h4⟩ := h 0 (by omega)
    refine ⟨m :: ms, by simpa using h1, fun i m' hi => ?_⟩
    cases i with
    | zero =>
      simp only [List.getElem?_cons_zero, Option.some.injEq] at hi
      subst hi
      exact ⟨cs', h3, h4⟩
    | succ i =>
      simp only [List.getElem?_cons_succ] at hi
      obtain ⟨cs2, h5, h6⟩ := h2 i m' hi
      exact ⟨cs2, by rwa [show i0 + 1 + i = i0 + (i + 1) by omega] at h5, h6⟩
/-- one number an element -/
theorem Lays.intRow {e : TypeId} {k : IntKind} (h : Lays P w n t cs) (ht : P.underlying t = some (.slice e)) (he : P.underlying e = some (.int k)) (h1 : P.cellsOf e = 1) :
    ∃ (A : Option Addr) (l : List Int) (c : Nat), cs = [.slice A l.length c] ∧ l.length ≤ c ∧ Cs w A (l.map (Value.int k)) ∧ ∀ x ∈ l, k.min ≤ x ∧ x ≤ k.max := by
  rcases h.slice ht with rfl | ⟨a, len, cap, rfl, h2, h3, h4⟩
  · exact ⟨none, [], 0, rfl, Nat.le_refl _, Cs.nil _ _, by simp⟩
  · obtain ⟨ms, h5, h6⟩ := rows_of (E := fun (x : Int) cs' => cs' = [.int k x] ∧ k.min ≤ x ∧ x ≤ k.max) (w := w) (a := a) (s := 1) len 0 fun i hi => by
      obtain ⟨cs', h7, h8, j, h9⟩ := h4 i hi
      obtain ⟨x, hx, hr⟩ := h9.int he
      rw [h1] at h8
      exact ⟨cs', by simpa using h8, x, hx, hr⟩
    refine ⟨some a, ms, cap, by rw [h5], by omega, fun i v hi => ?_, fun x hx => ?_⟩
    · rw [List.getElem?_map] at hi
      cases hm : ms[i]? with
      | none => rw [hm] at hi; cases hi
      | some x =>
        rw [hm] at hi
        simp only [Option.map_some, Option.some.injEq] at hi
        subst hi
        obtain ⟨cs', h7, rfl, _⟩ := h6 i x hm
        refine ⟨a, rfl, ?_⟩
        have := h7 0 _ rfl
        simpa using this
    · obtain ⟨i, hi⟩ := List.getElem?_of_mem hx
      obtain ⟨_, _, _, hr⟩ := h6 i x hi
      exact hr
theorem Lays.byteRow {e : TypeId} (h : Lays P w n t cs) (ht : P.underlying t = some (.slice e)) (he : P.underlying e = some (.int .u8)) (h1 : P.cellsOf e = 1) :
    ∃ (A : Option Addr) (l : List UInt8) (c : Nat), cs = [.slice A l.length c] ∧ l.length ≤ c ∧ Bs w A l := by
  obtain ⟨A, l, c, h2, h3, h4, h5⟩ := h.intRow ht he h1
  refine ⟨A, l.map u8, c, by simpa using h2, by simpa using h3, ?_⟩
  rw [bytes_of l h5] at h4
  exact h4
theorem sized_row {H : Type} {enc : TypeId × Value → H} {W : World} {held : Bool} {e : TypeId} {A : Option Addr} {len c b : Nat} {d : DataW H} {p : List MemPlace} (hs : ∀ es sp, d = .slice es sp → (es.length + sp.length) * b ≤ reachBytes) (ht : P.underlying t = some (.slice e))
    (h : DataW.Trod enc P W 0 (fun _ => true) held t (.slice A len c) d p) : c * b ≤ reachBytes := by
  obtain ⟨fuel, hf⟩ := h
  rcases DataW.trod_slice ht hf with ⟨h1, _⟩ | ⟨a, l, cap, elems, rest, m, _, h1, hx, _, h2, _, h4, _, h5, _⟩
  · simp [Value.cells] at h1
    obtain ⟨_, _, rfl⟩ := h1
    simp
  · simp [Value.cells] at h1
    obtain ⟨_, rfl, rfl⟩ := h1
    have := hs _ _ (congrArg Prod.fst hx)
    rw [List.length_map, List.length_map, h4, (h5 rfl).1, show len + (c - len) = c by omega] at this
    exact this
theorem cut_at (cs : List Value) (i n : Nat) : cs.drop i = (cs.drop i).take n ++ cs.drop (i + n) := by
  rw [← List.drop_drop, List.take_append_drop]
theorem okWide_array {r : Reach} {base : Nat} {v : Value} {m : Nat} {e : TypeId} (ht : P.underlying t = some (.array m e)) (h : Value.okWide P w r base t v) : ∃ cs, v = .agg cs := by
  simp only [Value.okWide, ht] at h
  cases v <;> simp_all
end
end Go.Proofs.RV
