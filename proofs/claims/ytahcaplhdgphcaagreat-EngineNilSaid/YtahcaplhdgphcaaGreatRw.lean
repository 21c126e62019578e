/-
  Rows of elements of several cells each.
-/
import Derived.Test.YtahcaplhdgphcaaGreatLa
import Derived.Test.YtahcaplhdgphcaaGreatFi
namespace Go.Proofs.RV
open Go Go.RowKit
set_option linter.unusedSimpArgs false
set_option linter.unusedVariables false

section
variable {M : Type} {E : M → List Value} {s : Nat}
theorem row_len : ∀ ms : List M, (∀ m ∈ ms, (E m).length = s) → (ms.flatMap E).length = ms.length * s
  | [], _ => by simp
  | m :: ms, h => by rw [List.flatMap_cons, List.length_append, h m (by simp), row_len ms (fun x hx => h x (by simp [hx])), List.length_cons, Nat.succ_mul, Nat.add_comm]
theorem row_cell : ∀ (ms : List M), (∀ m ∈ ms, (E m).length = s) → ∀ (i : Nat) (m : M) (j : Nat), ms[i]? = some m → j < s → (ms.flatMap E)[i * s + j]? = (E m)[j]?
  | [], _, i, m, j, hi, _ => by simp at hi
  | x :: ms, h, 0, m, j, hi, hj => by
    simp only [List.getElem?_cons_zero, Option.some.injEq] at hi
    subst hi
    rw [List.flatMap_cons, Nat.zero_mul, Nat.zero_add, List.getElem?_append_left (by rw [h x (by simp)]; exact hj)]
  | x :: ms, h, i + 1, m, j, hi, hj => by
    have hx := h x (by simp)
    rw [List.flatMap_cons, List.getElem?_append_right (by rw [hx, Nat.succ_mul]; omega), hx, show (i + 1) * s + j - s = i * s + j by rw [Nat.succ_mul]; omega]
    exact row_cell ms (fun y hy => h y (by simp [hy])) i m j (by simpa using hi) hj
theorem row_find (h0 : 0 < s) : ∀ (ms : List M), (∀ m ∈ ms, (E m).length = s) → ∀ (k : Nat) (v : Value), (ms.flatMap E)[k]? = some v → ∃ i m j, ms[i]? = some m ∧ j < s ∧ k = i * s + j ∧ (E m)[j]? = some v
  | [], _, k, v, hk => by simp at hk
  | x :: ms, h, k, v, hk => by
    have hx := h x (by simp)
    rw [List.flatMap_cons] at hk
    rcases Nat.lt_or_ge k s with h1 | h1
    · rw [List.getElem?_append_left (by rw [hx]; exact h1)] at hk
      exact ⟨0, x, k, rfl, h1, by omega, hk⟩
    · rw [List.getElem?_append_right (by rw [hx]; exact h1), hx] at hk
      obtain ⟨i, m, j, h2, h3, h4, h5⟩ := row_find h0 ms (fun y hy => h y (by simp [hy])) (k - s) v hk
      exact ⟨i + 1, m, j, by simpa using h2, h3, by rw [Nat.succ_mul]; omega, h5⟩
/-- a row's cell -/
theorem Cs.elem {w : World} {A : Option Addr} {ms : List M} (hc : Cs w A (ms.flatMap E)) (h : ∀ m ∈ ms, (E m).length = s) {i : Nat} {m : M} (hi : ms[i]? = some m) {j : Nat} (hj : j < s) : ∃ a, A = some a ∧ w.cell? (a.add (i * s + j)) = (E m)[j]? := by
  have h1 := row_cell ms h i m j hi hj
  have h2 : j < (E m).length := by rw [h m (List.mem_of_getElem? hi)]; exact hj
  rw [List.getElem?_eq_getElem h2] at h1 ⊢
  exact hc _ _ h1
theorem Cs.elemA {w : World} {a : Addr} {ms : List M} (hc : Cs w (some a) (ms.flatMap E)) (h : ∀ m ∈ ms, (E m).length = s) {i : Nat} {m : M} (hi : ms[i]? = some m) {j : Nat} (hj : j < s) : w.cell? ((a.add (i * s)).add j) = (E m)[j]? := by
  obtain ⟨b, hb, hcell⟩ := hc.elem h hi hj
  cases hb
  rw [add_add]
  exact hcell
theorem Cs.elemZ {w : World} {a : Addr} {ms : List M} (hc : Cs w (some a) (ms.flatMap E)) (h : ∀ m ∈ ms, (E m).length = s) {i : Nat} {m : M} (hi : ms[i]? = some m) (h0 : 0 < s) : w.cell? (a.add (i * s)) = (E m)[0]? := by
  obtain ⟨b, hb, hcell⟩ := hc.elem h hi h0
  cases hb
  exact hcell
theorem Cs.some_of {w : World} {A : Option Addr} {cs : List Value} (hc : Cs w A cs) (h : 0 < cs.length) : ∃ a, A = some a := by
  cases cs with
  | nil => simp at h
  | cons v r => obtain ⟨x, hx, _⟩ := hc 0 v rfl; exact ⟨x, hx⟩
theorem Cs.rowTake {w : World} {A : Option Addr} {ms : List M} (hc : Cs w A (ms.flatMap E)) (k : Nat) : Cs w A ((ms.take k).flatMap E) := by
  intro i v hi
  have : (ms.flatMap E)[i]? = some v := by
    conv => lhs; rw [← List.take_append_drop k ms]
    rw [List.flatMap_append, List.getElem?_append_left (List.getElem?_eq_some_iff.1 hi).1]
    exact hi
  exact hc i v this
theorem Cs.rowDrop {w : World} {A : Option Addr} {ms : List M} {c : Nat} (hc : Cs w A (ms.flatMap E)) (h : ∀ m ∈ ms, (E m).length = s) (hl : ms.length ≤ c) (k : Nat) : Cs w (RV.adv A c k s) ((ms.drop k).flatMap E) := by
  intro i v hi
  unfold RV.adv
  have hk : k < ms.length := by
    rcases Nat.lt_or_ge k ms.length with h1 | h1
    · exact h1
    · rw [List.drop_eq_nil_of_le h1] at hi; simp at hi
  have ht : ((ms.take k).flatMap E).length = k * s := by
    rw [row_len _ (fun m hm => h m (List.mem_of_mem_take hm)), List.length_take, Nat.min_eq_left (by omega)]
  rw [if_neg (by omega)]
  have : (ms.flatMap E)[k * s + i]? = some v := by
    conv => lhs; rw [← List.take_append_drop k ms]
    rw [List.flatMap_append, List.getElem?_append_right (by omega), ht, show k * s + i - k * s = i by omega]
    exact hi
  obtain ⟨a, rfl, hcell⟩ := hc _ v this
  exact ⟨_, rfl, by rw [add_add]; exact hcell⟩
theorem row_nat (ms : List M) (i : Nat) (h : i < ms.length) : ∃ m, ms[i]? = some m := ⟨ms[i], List.getElem?_eq_getElem h⟩
/-- a row that came in -/
theorem Lays.rowOf {P : Program} {w : World} {n : Nat} {t e : TypeId} {cs : List Value} (h : Lays P w n t cs) (ht : P.underlying t = some (.slice e)) (he : P.cellsOf e = s) (h0 : 0 < s) (F : M → Prop)
    (hr : ∀ k cs', Lays P w k e cs' → cs'.length = s → ∃ m, cs' = E m ∧ F m) :
    ∃ (A : Option Addr) (ms : List M) (c : Nat), cs = [.slice A ms.length c] ∧ ms.length ≤ c ∧ Cs w A (ms.flatMap E) ∧ (∀ m ∈ ms, (E m).length = s) ∧ ∀ m ∈ ms, F m := by
  rcases h.slice ht with rfl | ⟨a, len, cap, rfl, h2, h3, h4⟩
  · exact ⟨none, [], 0, rfl, Nat.le_refl _, Cs.nil _ _, by simp, by simp⟩
  · obtain ⟨ms, h5, h6⟩ := rows_of (E := fun (m : M) cs' => cs' = E m ∧ cs'.length = s ∧ F m) (w := w) (a := a) (s := s) len 0 fun i hi => by
      obtain ⟨cs', h7, h8, j, h9⟩ := h4 i hi
      rw [he] at h7 h8
      obtain ⟨m, hm, hF⟩ := hr j cs' h9 h7
      exact ⟨cs', by simpa using h8, m, hm, h7, hF⟩
    have hlen : ∀ m ∈ ms, (E m).length = s := by
      intro m hm
      obtain ⟨i, hi⟩ := List.getElem?_of_mem hm
      obtain ⟨_, _, rfl, hl, _⟩ := h6 i m hi
      exact hl
    refine ⟨some a, ms, cap, by rw [h5], by omega, fun i v hi => ?_, hlen, fun m hm => ?_⟩
    · obtain ⟨k, m, j, h7, h8, rfl, h9⟩ := row_find h0 ms hlen i v hi
      obtain ⟨cs', h10, rfl, _⟩ := h6 k m h7
      refine ⟨a, rfl, ?_⟩
      have := h10 j v h9
      simpa using this
    · obtain ⟨i, hi⟩ := List.getElem?_of_mem hm
      obtain ⟨_, _, _, _, hr⟩ := h6 i m hi
      exact hr
/-- an element of a row turns -/
theorem row_set : ∀ (ms : List M), (∀ m ∈ ms, (E m).length = s) → ∀ (i : Nat) (m' : M), (E m').length = s → i < ms.length → splice (ms.flatMap E) (i * s) (E m') = (ms.set i m').flatMap E
  | [], _, i, m', _, hi => by simp at hi
  | x :: ms, h, 0, m', hm, _ => by
    have hx := h x (by simp)
    rw [Nat.zero_mul, splice_eq _ _ _ (by simp [hx, hm])]
    simp [hm]
    rw [List.drop_append_of_le_length (by omega), List.drop_of_length_le (by omega)]
    rfl
  | x :: ms, h, i + 1, m', hm, hi => by
    have hx := h x (by simp)
    have ih := row_set ms (fun y hy => h y (by simp [hy])) i m' hm (by simpa using hi)
    have hl := row_len ms (fun y hy => h y (by simp [hy]))
    have hi' : i < ms.length := by simpa using hi
    have hle : i * s + s ≤ ms.length * s := by rw [← Nat.succ_mul]; exact Nat.mul_le_mul_right _ hi'
    rw [splice_eq _ _ _ (by rw [hl]; omega)] at ih
    rw [splice_eq _ _ _ (by rw [List.flatMap_cons, List.length_append, hx, hl, hm, Nat.succ_mul]; omega)]
    rw [List.set_cons_succ, List.flatMap_cons, List.flatMap_cons, ← ih, hm, Nat.succ_mul, List.take_append, List.drop_append, hx]
    rw [List.take_of_length_le (by omega), List.drop_eq_nil_of_le (by omega), List.nil_append, show i * s + s - s = i * s by omega, show i * s + s + s - s = i * s + s by omega]
    simp
end
/-- numbers one after the other, as an array -/
theorem flat_ints {P : Program} {T e : TypeId} {n m : Nat} {k : IntKind} {l : List Int} (hT : P.underlying T = some (.array m e)) (he : P.underlying e = some (.int k)) (h1 : P.cellsOf e = 1) (hl : l.length = m) : Flat P (n + 2) T (l.map (Value.int k)) := by
  unfold Flat
  rw [hT]
  refine ⟨by omega, l.map fun x => [Value.int k x], by simpa using hl, ?_, ?_⟩
  · have : ∀ l : List Int, l.map (Value.int k) = (l.map fun x => [Value.int k x]).flatten := by
      intro l
      induction l with
      | nil => rfl
      | cons b l ih => simp [ih]
    exact this l
  · intro c hc
    obtain ⟨b, _, rfl⟩ := List.mem_map.1 hc
    exact ⟨by simp [h1], flat_int he b⟩
/-! ### Facts of operations in drawn regions -/
def IsV (u : Value) (v : Value) (_ : World) : Prop := v = u
def BsF (l : List UInt8) (v : Value) (w : World) : Prop := ∃ A c, v = .slice A l.length c ∧ Bs w A l
theorem keepsV (u : Value) : Keeps (IsV u) := fun _ _ _ _ h => h
theorem keepsB (l : List UInt8) : Keeps (BsF l) := fun _ _ _ h ⟨A, c, e, hB⟩ => ⟨A, c, e, hB.more h⟩
theorem stCell_mono {v : Value} {a : Addr} {w : World} {K K' : World → Prop} (h : stCell v a w K) (hK : ∀ w', K w' → K' w') : stCell v a w K' := ⟨h.1, h.2.1, h.2.2.1, hK _ h.2.2.2⟩
/-- what comes behind a region gets a name -/
theorem draw_name {P : Program} {id : Nat} {ops : Array Oper} {e : Env} {w : World} {K : Env → World → Prop} (h : ∀ K' : Env → World → Prop, (∀ e w, K e w → K' e w) → drawP P id ops e w K') : drawP P id ops e w K := h K fun _ _ h => h
/-! ### Structs put together, by tables -/
def structOk (P : Program) (T : TypeId) : Bool := match P.underlying T with | some (.struct fs) => fs.toList.all fun f => decide (P.cellsOf f.type ≠ 0) | _ => false
def placeOf (P : Program) (T : TypeId) : Nat → Option (Nat × Nat) := match P.underlying T with | some (.struct fs) => fun i => (fs[i]?).map fun f => (f.offset, P.cellsOf f.type) | _ => fun _ => none
theorem build_of {P : Program} {T : TypeId} {z : Value} {parts : Array (Nat × Value)} (out : List Value) (hc : structOk P T = true) (hz : zer P T = some z) (hf : laid (placeOf P T) z.cells.toList parts.toList = some out) (w0 : World) (K : Value → Prop) :
    pureP P (Instr.build T parts) K = K (.agg out.toArray) := by
  unfold structOk at hc
  unfold placeOf at hf
  cases hT : P.underlying T with
  | none => rw [hT] at hc; cases hc
  | some d =>
    rw [hT] at hc hf
    cases d with
    | struct fs =>
      refine build_eq hT hz (fun f hfm => ?_) hf w0 K
      simp only [List.all_eq_true, decide_eq_true_eq] at hc
      exact hc f (by simpa using hfm)
    | _ => cases hc
/-- 'make([]T, n, c)' -/
theorem mk_slice2 {P : Program} {t e : TypeId} {z : Value} {size bytes n c : Nat} {kl kc : IntKind} {w : World} {K : Value → World → Prop} (ht : P.underlying t = some (.slice e)) (hE : ElemT P e z size bytes) (hbytes : bytes * c ≤ 281474976710656) (h63 : c ≤ maxLen) (hn : n ≤ c)
    (hK : K (.slice (some ⟨w.heap.size, 0, none⟩) n c) (w.alloc (.cells (madeCells z.cells (c * size)) e))) : runP P (Instr.makeSlice t (.int kl (n : Int)) (.int kc (c : Int))) w K := by
  obtain ⟨i, hi, hz, hs, hby⟩ := info_parts hE
  have hr := run_make (P := P) (w := w) t e i z ht hi hz kl kc n c (by omega) (by omega) (by rw [hby, ← Int.natCast_mul]; omega) (by simp only [maxLen] at h63; omega)
  rw [hs, Int.toNat_natCast, Int.toNat_natCast] at hr
  exact ⟨_, _, hr, hK⟩
theorem made_row {M : Type} {E : M → List Value} {s : Nat} (m0 : M) (h : (E m0).length = s) (h0 : 0 < s) (z : Array Value) (hz : z = (E m0).toArray) (c : Nat) : (madeCells z (c * s)).toList = (List.replicate c m0).flatMap E := by
  have hall : ∀ m ∈ List.replicate c m0, (E m).length = s := fun m hm => by rw [List.eq_of_mem_replicate hm]; exact h
  apply List.ext_getElem?
  intro k
  have hl : ((List.replicate c m0).flatMap E).length = c * s := by rw [row_len _ hall, List.length_replicate]
  rcases Nat.lt_or_ge k (c * s) with h1 | h1
  · have hq : k / s < c := Nat.div_lt_of_lt_mul (by rw [Nat.mul_comm]; exact h1)
    have hm : k % s < s := Nat.mod_lt _ h0
    have e : k = k / s * s + k % s := by rw [Nat.mul_comm]; exact (Nat.div_add_mod k s).symm
    have r := row_cell (List.replicate c m0) hall (k / s) m0 (k % s) (by simp [hq]) hm
    rw [← e] at r
    rw [r]
    subst hz
    simp only [madeCells, Array.toList_map, Array.toList_range, List.getElem?_map, List.getElem?_range h1, Option.map_some, List.size_toArray, h]
    rw [List.getElem?_eq_getElem (by rw [h]; exact hm)]
    simp [h, hm]
  · rw [List.getElem?_eq_none (by simp [madeCells]; exact h1), List.getElem?_eq_none (by omega)]
/-! ### Cells of one block that are written amid a drawn region -/
/-- cell i of block p turns to T i at most -/
def Puts (B p : Nat) (e : TypeId) (T : Nat → Option Value) (a b : World) : Prop := Below B a b ∧ ∀ cs, Blk a p e cs → ∃ cs', Blk b p e cs' ∧ cs'.length = cs.length ∧ ∀ i : Nat, cs'[i]? = cs[i]? ∨ (T i ≠ none ∧ cs'[i]? = T i)
/-- cell i is written -/
def PutF (p : Nat) (e : TypeId) (T : Nat → Option Value) (i : Nat) (_ : Value) (w : World) : Prop := ∃ cs, Blk w p e cs ∧ cs[i]? = T i
section
variable {B p : Nat} {e : TypeId} {T : Nat → Option Value} {a b c : World}
theorem Puts.refl (B p : Nat) (e : TypeId) (T : Nat → Option Value) (a : World) : Puts B p e T a a := ⟨Below.refl _ _, fun cs h => ⟨cs, h, rfl, fun _ => .inl rfl⟩⟩
theorem Puts.trans (h : Puts B p e T a b) (k : Puts B p e T b c) : Puts B p e T a c :=
  ⟨h.1.trans k.1, fun cs hc => by
    obtain ⟨c1, h1, h2, h3⟩ := h.2 cs hc
    obtain ⟨c2, k1, k2, k3⟩ := k.2 c1 h1
    refine ⟨c2, k1, k2.trans h2, fun i => ?_⟩
    rcases k3 i with h4 | h4
    · rw [h4]; exact h3 i
    · exact .inr h4⟩
theorem Puts.keeps {i : Nat} (v : Value) (h : Puts B p e T a b) (hd : PutF p e T i v a) : PutF p e T i v b := by
  obtain ⟨cs, h1, h2⟩ := hd
  obtain ⟨c1, h3, _, h4⟩ := h.2 cs h1
  refine ⟨c1, h3, ?_⟩
  rcases h4 i with h5 | h5
  · rw [h5]; exact h2
  · exact h5.2
theorem Puts.st {i : Nat} {v : Value} {cs : List Value} {K : World → Prop} (hb : Blk a p e cs) (hi : i < cs.length) (hv : v.oneCell' = true) (hB : B ≤ p) (hT : T i = some v)
    (hK : ∀ w', Wr p a w' → Puts B p e T a w' → PutF p e T i undef w' → K w') : stCell v ⟨p, i, none⟩ a K :=
  st_cell hb hi hv fun w' h1 h2 => hK w' h1 ⟨h1.below (Below.refl _ _) hB, fun cs' hc => ⟨cs.set i v, h2, by rw [hc.inj hb]; simp, fun j => by
    rw [hc.inj hb]
    by_cases hij : i = j
    · subst hij
      exact .inr ⟨by rw [hT]; simp, by rw [List.getElem?_set_self hi, hT]⟩
    · exact .inl (List.getElem?_set_ne hij)⟩⟩ ⟨_, h2, by rw [List.getElem?_set_self hi, hT]⟩
theorem Puts.blk {cs : List Value} (h : Puts B p e T a b) (hb : Blk a p e cs) : ∃ cs', Blk b p e cs' ∧ cs'.length = cs.length := by
  obtain ⟨c1, h1, h2, _⟩ := h.2 cs hb
  exact ⟨c1, h1, h2⟩
/-- all is written -/
theorem Puts.done {cs : List Value} (h : Puts B p e T a b) (hb : Blk a p e cs) (hd : ∀ i, T i ≠ none → PutF p e T i undef b) : ∃ cs', Blk b p e cs' ∧ cs'.length = cs.length ∧ ∀ i : Nat, cs'[i]? = if T i = none then cs[i]? else T i := by
  obtain ⟨c1, h1, h2, h3⟩ := h.2 cs hb
  refine ⟨c1, h1, h2, fun i => ?_⟩
  by_cases hi : T i = none
  · rw [if_pos hi]
    rcases h3 i with h4 | h4
    · exact h4
    · exact absurd hi h4.1
  · rw [if_neg hi]
    obtain ⟨c2, k1, k2⟩ := hd i hi
    rw [h1.inj k1]
    exact k2
theorem draw_puts {P : Program} {id : Nat} {l : List Oper} {e0 : Env} {w0 : World} {K : Env → World → Prop} (B p : Nat) (e : TypeId) (T : Nat → Option Value) (m : Nat) (D : List (List Nat)) (fs : List (Nat × (Value → World → Prop))) (hm : P.follows .mixedOrders = true) (hD : okD l.toArray D = true) (hT : okT l.toArray D m = true)
    (hst : ∀ x ∈ fs, ∀ v a b, Puts B p e T a b → x.2 v a → x.2 v b)
    (hv : vc P B (Puts B p e T) l.toArray D (look fs) w0 0 (l.take m) e0 [] (Stop (fun e w => opsP P l.toArray (l.drop m) e w K) .mk)) : drawP P id l.toArray e0 w0 K :=
  draw_rg B (Puts B p e T) D _ hm hD (fun _ _ _ h k => h.trans k) (Puts.refl B p e T) ⟨below_drawn _ _, fun cs h => ⟨cs, h, rfl, fun _ => .inl rfl⟩⟩ (fun _ h => h.1) (look_all fs hst) m hT (by simpa [Stop] using hv)
end
end Go.Proofs.RV
