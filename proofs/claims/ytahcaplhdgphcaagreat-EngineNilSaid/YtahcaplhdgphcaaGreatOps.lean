/-
  What the operations on memory ask, in the words of blocks, cells and owned rows.
-/
import Derived.Test.YtahcaplhdgphcaaGreatMem
namespace Go.Proofs.RV
open Go Go.RowKit
set_option linter.unusedSimpArgs false

theorem st_cell {w : World} {b i : Nat} {e : TypeId} {cs : List Value} {v : Value} {K : World → Prop} (hb : Blk w b e cs) (hi : i < cs.length) (hv : v.oneCell' = true)
    (hK : ∀ w', Wr b w w' → Blk w' b e (cs.set i v) → K w') : stCell v ⟨b, i, none⟩ w K :=
  ⟨hv, ⟨_, by rw [hb.cell]; exact List.getElem?_eq_getElem hi⟩, hb.frozen i, hK _ (wr_setCell w b i v) (hb.set i v)⟩
theorem st_row {w : World} {b i n : Nat} {e : TypeId} {cs : List Value} {vs : Array Value} {K : World → Prop} (hb : Blk w b e cs) (hn : vs.size = n) (hi : i + n ≤ cs.length) (hv : ∀ u ∈ vs.toList, u.oneCell' = true)
    (hK : ∀ w', Wr b w w' → Blk w' b e (splice cs i vs.toList) → K w') : stRow n vs ⟨b, i, none⟩ w K := by
  refine ⟨rfl, hn, fun j hj => ⟨?_, hb.frozen _⟩, fun u hu => hv u (by simpa using hu), hK _ (wr_setCells b _ i w) (Blk.sets _ i w cs hb)⟩
  rw [hb.cell, List.getElem?_eq_getElem (show i + j < cs.length by omega)]
  rfl
/-- a whole variable is written -/
theorem st_all {w : World} {b n : Nat} {e : TypeId} {cs : List Value} {vs : Array Value} {K : World → Prop} (hb : Blk w b e cs) (hn : vs.size = n) (hc : cs.length = n) (hv : ∀ u ∈ vs.toList, u.oneCell' = true)
    (hK : ∀ w', Wr b w w' → Blk w' b e vs.toList → K w') : stRow n vs ⟨b, 0, none⟩ w K := by
  refine st_row hb hn (by omega) hv fun w' h1 h2 => hK w' h1 ?_
  rw [splice_eq _ _ _ (by simp [hn, hc])] at h2
  rw [List.drop_eq_nil_of_le (by simp [hn, hc])] at h2
  simpa using h2
theorem ld_row {w : World} {b i n : Nat} {e : TypeId} {cs : List Value} {K : Value → Prop} (hb : Blk w b e cs) (hi : i + n ≤ cs.length) (hK : K (.agg ((cs.drop i).take n).toArray)) : ldRow n ⟨b, i, none⟩ w K := by
  refine ⟨_, by simp; omega, fun j hj => ?_, hK⟩
  rw [add_mk, hb.cell]
  simp [List.getElem?_take, hj]
theorem ld_all {w : World} {b n : Nat} {e : TypeId} {cs : List Value} {K : Value → Prop} (hb : Blk w b e cs) (hc : cs.length = n) (hK : K (.agg cs.toArray)) : ldRow n ⟨b, 0, none⟩ w K := by
  refine ld_row hb (by omega) ?_
  rw [List.drop_zero, List.take_of_length_le (by omega)]
  exact hK

/-! ### Rows of the call's own -/
/-- what the table tells of an element's type -/
def ElemT (P : Program) (e : TypeId) (z : Value) (size bytes : Nat) : Prop := (P.info? e).map (fun i => (i.zero, i.size, i.bytes)) = some (some z, size, bytes)
/-- the slice at A with room for c holds the n elements xs, in a block of its own from B on -/
abbrev Own (w : World) (B : Nat) (e : TypeId) (size : Nat) (A : Option Addr) (n c : Nat) (xs : List Value) : Prop := w.ownsRow B e size (.slice A n c) n xs
theorem Own.cs {w : World} {B e size n c : Nat} {A : Option Addr} {xs : List Value} (h : Own w B e size A n c xs) : Cs w A xs := by
  rcases h.2 with ⟨hv, hn⟩ | ⟨g, cap, cur, hv, hB, hh, hnc, _, _, ht⟩
  · have : xs = [] := List.eq_nil_of_length_eq_zero (by rw [h.1, hn, Nat.zero_mul])
    subst this
    exact Cs.nil _ _
  · injection hv with h1 h2 h3
    subst h1
    intro i v hi
    exact ⟨_, rfl, h.cells (g := g) rfl i v hi⟩
theorem Own.le {w : World} {B e size n c : Nat} {A : Option Addr} {xs : List Value} (h : Own w B e size A n c xs) : n ≤ c := by
  rcases h.2 with ⟨hv, hn⟩ | ⟨g, cap, cur, hv, hB, hh, hnc, _, _, ht⟩
  · omega
  · injection hv with h1 h2 h3; omega
theorem Own.len {w : World} {B e size n c : Nat} {A : Option Addr} {xs : List Value} (h : Own w B e size A n c xs) : xs.length = n * size := h.1
theorem Own.mono {w : World} {B B' e size n c : Nat} {A : Option Addr} {xs : List Value} (h : Own w B e size A n c xs) (hB : B' ≤ B) : Own w B' e size A n c xs := by
  refine ⟨h.1, ?_⟩
  rcases h.2 with h1 | ⟨g, cap, cur, hv, hb, rest⟩
  · exact .inl h1
  · exact .inr ⟨g, cap, cur, hv, by omega, rest⟩
/-- where it lies -/
theorem Own.blk {w : World} {B e size n c : Nat} {A : Option Addr} {xs : List Value} (h : Own w B e size A n c xs) : (A = none ∧ n = 0) ∨ ∃ g, A = some ⟨g, 0, none⟩ ∧ B ≤ g ∧ g < w.heap.size ∧ ∃ cur, Blk w g e cur := by
  rcases h.2 with ⟨hv, hn⟩ | ⟨g, cap, cur, hv, hB, hh, hnc, _, _, ht⟩
  · injection hv with h1; exact .inl ⟨h1, hn⟩
  · injection hv with h1 h2 h3
    exact .inr ⟨g, h1, hB, (Array.getElem?_eq_some_iff.1 hh).1, cur.toList, by unfold Blk; simpa using hh⟩
theorem Own.keep {w w' : World} {B e size n c : Nat} {A : Option Addr} {xs : List Value} (h : Own w B e size A n c xs) (hk : ∀ g, A = some ⟨g, 0, none⟩ → g < w.heap.size → w'.heap[g]? = w.heap[g]?) : Own w' B e size A n c xs := by
  refine ⟨h.1, ?_⟩
  rcases h.2 with h1 | ⟨g, cap, cur, hv, hB, hh, rest⟩
  · exact .inl h1
  · refine .inr ⟨g, cap, cur, hv, hB, ?_, rest⟩
    injection hv with h1
    rw [hk g h1 (Array.getElem?_eq_some_iff.1 hh).1]
    exact hh
theorem Own.more {w w' : World} {B e size n c : Nat} {A : Option Addr} {xs : List Value} (h : Own w B e size A n c xs) (hm : More w w') : Own w' B e size A n c xs := h.keep fun g _ hg => hm.block g hg
theorem Own.wr {w w' : World} {B e size n c b : Nat} {A : Option Addr} {xs : List Value} (h : Own w B e size A n c xs) (hw : Wr b w w') (hne : ∀ g, A = some ⟨g, 0, none⟩ → g ≠ b) : Own w' B e size A n c xs :=
  h.keep fun g hg _ => hw.block g (hne g hg)
theorem Own.ne_blk {w : World} {B e e' size n c b : Nat} {A : Option Addr} {xs cs : List Value} (h : Own w B e size A n c xs) (hb : Blk w b e' cs) (hne : e ≠ e') : ∀ g, A = some ⟨g, 0, none⟩ → g ≠ b := by
  intro g hg
  rcases h.blk with ⟨h1, _⟩ | ⟨g', h1, _, _, cur, hc⟩
  · rw [hg] at h1; cases h1
  · rw [hg] at h1
    injection h1 with h1
    injection h1 with h1
    subst h1
    exact hc.ne hb hne
theorem Own.nil (w : World) (B e size : Nat) : Own w B e size none 0 0 [] := World.ownsRow_nil w B e size
theorem Own.made (w : World) (e size : Nat) (cs : Array Value) (n : Nat) (hn : cs.size = n * size) (hm : n ≤ maxLen) {B : Nat} (hB : B ≤ w.heap.size) : Own (w.alloc (.cells cs e)) B e size (some ⟨w.heap.size, 0, none⟩) n n cs.toList :=
  World.ownsRow_lit w cs n hB hm hn

section
variable {P : Program}
theorem run_app_none {t ty e : TypeId} {i : TypeInfo} {B size n c c2 : Nat} {A : Option Addr} {xs : List Value} {w : World} (ht : P.underlying t = some (.slice e)) (hi : P.info? e = some i) (hown : Own w B e size A n c xs) :
    (Builtin.append_ #[t, t] ty #[.slice A n c, .slice none 0 c2]).run P w = .ok (.slice A n c) w := by
  rcases hown.2 with ⟨hv, rfl⟩ | ⟨g, cap, cur, hv, _, _, hnc, _⟩
  · rw [hv]
    simp [Builtin.append_, run_underlying ht, sizeOf, typeInfo, hi, Builtin.lenOf, Builtin.firstCells]
  · rw [hv]
    simp [Builtin.append_, run_underlying ht, sizeOf, typeInfo, hi, Builtin.lenOf, Builtin.firstCells, hnc, storeCells]
/-- 'append(v, x...)', v a row of the call's own -/
theorem app_own {t ty e : TypeId} {z : Value} {size bytes B n c m c2 : Nat} {A A2 : Option Addr} {xs news : List Value} {w : World} {K : Value → World → Prop} (ht : P.underlying t = some (.slice e)) (hE : ElemT P e z size bytes) (hzs : z.cells.size = size) (hsz : 0 < size)
    (hown : Own w B e size A n c xs) (hsrc : Cs w A2 news) (hl : news.length = m * size) (h1 : ∀ u ∈ news, u.oneCell' = true) (h63 : n + m ≤ maxLen) (hbytes : (n + m) * bytes ≤ 140737488355328) (hB : B ≤ w.heap.size)
    (hK : ∀ A' c' w', Own w' B e size A' (n + m) c' (xs ++ news) → w.grownBy w' (Value.slice A n c).ownBlock → ((Value.slice A' (n + m) c').ownBlock = (Value.slice A n c).ownBlock ∨ (Value.slice A' (n + m) c').ownBlock = some w.heap.size) → K (.slice A' (n + m) c') w') :
    runP P (Builtin.append_ #[t, t] ty #[.slice A n c, .slice A2 m c2]) w K := by
  obtain ⟨i, hi, hz, hs, hby⟩ := info_parts hE
  have fin : ∀ v' w', w'.ownsRow B e size v' (n + m) (xs ++ news) → w.grownBy w' (Value.slice A n c).ownBlock → (v'.ownBlock = (Value.slice A n c).ownBlock ∨ v'.ownBlock = some w.heap.size) → K v' w' := by
    intro v' w' ho hg hat
    rcases ho.2 with ⟨hv, hn⟩ | ⟨g, cap, cur, hv, rest⟩
    · subst hv
      have e1 : (Value.slice none 0 0) = .slice none (n + m) 0 := by rw [hn]
      rw [e1] at ho hat ⊢
      exact hK _ _ _ ho hg hat
    · subst hv
      exact hK _ _ _ ho hg hat
  rcases A2 with _ | ad
  · have hn : news = [] := by
      cases news with
      | nil => rfl
      | cons u r =>
        obtain ⟨a, ha, _⟩ := hsrc 0 u (by simp)
        cases ha
    subst hn
    have hm : m = 0 := by
      have : m * size = 0 := by simpa using hl.symm
      rcases Nat.mul_eq_zero.1 this with h | h <;> omega
    subst hm
    exact ⟨.slice A n c, w, run_app_none ht hi hown, fin _ _ (by simpa using hown) (World.grownBy.refl w _) (.inl rfl)⟩
  · have hcells : ∀ (j : Nat) (u : Value), news[j]? = some u → w.cell? (ad.add j) = some u := by
      intro j u hu
      obtain ⟨a, ha, hc⟩ := hsrc j u hu
      injection ha with ha
      subst ha
      exact hc
    obtain ⟨v', w', hrun, h2, h3, _, h5⟩ := run_append_own_at (P := P) w B t ty e i z size bytes ht hi hz hs hby hzs hsz (.slice A n c) n xs hown ad m c2 news hl hcells h1 h63 hbytes hB
    exact ⟨v', w', hrun, fin _ _ h2 h3 h5⟩

/-- what an append to a row of the call's own leaves as it was -/
theorem grown_below {B n c : Nat} {A : Option Addr} {a w w' : World} {e size : Nat} {xs : List Value} (hown : Own w B e size A n c xs) (hb : Below B a w) (hs : B ≤ w.heap.size) (hg : w.grownBy w' (Value.slice A n c).ownBlock) : Below B a w' :=
  hb.grown hg hs fun k hk => (hown.lt k hk).1
theorem grown_blk {b e : Nat} {row : Option Nat} {w w' : World} {cs : List Value} (hg : w.grownBy w' row) (h : Blk w b e cs) (hne : some b ≠ row) : Blk w' b e cs := (hg.block b h.lt hne).trans h
theorem own_row_ne {w : World} {B e e' size n c b : Nat} {A : Option Addr} {xs cs : List Value} (h : Own w B e size A n c xs) (hb : Blk w b e' cs) (hne : e ≠ e') : some b ≠ (Value.slice A n c).ownBlock := by
  intro hh
  cases A with
  | none => simp [Value.ownBlock] at hh
  | some a =>
    rcases h.blk with ⟨h1, _⟩ | ⟨g, h1, _, _, cur, hc⟩
    · cases h1
    · injection h1 with h1
      subst h1
      simp [Value.ownBlock] at hh
      subst hh
      exact hc.ne hb hne rfl
/-- 'copy(dst, src)', dst in a block that is known -/
theorem copy_blk {dT sT ty e es b o dn dc m sc : Nat} {A2 : Option Addr} {cs news : List Value} {w : World} {K : Value → World → Prop} (hd : P.underlying dT = some (.slice e)) (h1c : P.cellsOf e = 1) (hb : Blk w b es cs)
    (hsrc : Cs w A2 (news.take (min m dn))) (hl : news.length = m) (h1 : ∀ u ∈ news, u.oneCell' = true) (ho : o + dn ≤ cs.length)
    (hK : ∀ w', Wr b w w' → Blk w' b es (splice cs o (news.take dn)) → K (.int .i64 (min m dn : Nat)) w') : runP P (Builtin.copy_ #[dT, sT] ty #[.slice (some ⟨b, o, none⟩) dn dc, .slice A2 m sc]) w K := by
  have hsz : (Go.sizeOf e).run P w = .ok 1 w := by rw [← h1c]; exact size_run' (by omega) w
  have htk : news.take dn = news.take (min m dn) := by
    rw [← hl]
    rcases Nat.le_total news.length dn with h | h
    · rw [Nat.min_eq_left h, List.take_of_length_le h, List.take_of_length_le (Nat.le_refl _)]
    · rw [Nat.min_eq_right h]
  have hlen : (news.take (min m dn)).length = min m dn := by rw [List.length_take, hl]; omega
  have hfc : (Builtin.firstCells 1 (min m dn) (.slice A2 m sc)).run P w = .ok (news.take (min m dn)).toArray w := by
    rcases A2 with _ | ad
    · have hn : news.take (min m dn) = [] := by
        cases hh : news.take (min m dn) with
        | nil => rfl
        | cons u r =>
          rw [hh] at hsrc
          obtain ⟨a, ha, _⟩ := hsrc 0 u (by simp)
          cases ha
      rw [hn]
      simp [Builtin.firstCells]
    · refine run_firstCells_some (P := P) w 1 (min m dn) ad m sc _ (by rw [hlen, Nat.mul_one]) fun j u hu => ?_
      obtain ⟨a, ha, hc⟩ := hsrc j u hu
      injection ha with ha
      subst ha
      exact hc
  have hst := run_storeCells_cells (P := P) b o (news.take (min m dn)) 0 w (fun j hj => by
    rw [hb.cell, List.getElem?_eq_getElem (show o + 0 + j < cs.length by omega)]; rfl) (fun j _ => hb.frozen _) (fun u hu => h1 u (List.mem_of_mem_take hu))
  refine ⟨_, _, ?_, hK _ (wr_setCells b (news.take (min m dn)) (o + 0) w) (by rw [htk]; exact Blk.sets _ (o + 0) w cs hb)⟩
  have hmin : Nat.min m dn = min m dn := rfl
  simp [Builtin.copy_, run_underlying hd, Builtin.lenOf, hsz, hmin, hfc, hst, goInt]
end

/-- '[]T{..}', elements of one cell: fill is reckoned out -/
def bcells (z : Value) (n : Nat) (parts : Array (Nat × Value)) : Option (Array Value) :=
  Instr.fill (fun i => some (i * 1, 1)) ((Array.range (n * 1)).map ((if n * 1 = 0 then #[] else z.cells)[· % (if n * 1 = 0 then #[] else z.cells).size]!)) parts.toList
theorem fill_from (z : Value) : ∀ (vs : List Value) (k : Nat) (cs : Array Value), (∀ v ∈ vs, v.cells = #[v]) → k + vs.length ≤ cs.size →
    Instr.fill (fun i => some (i * 1, 1)) cs ((vs.zipIdx k).map fun x => (x.2, x.1)) = some ⟨splice cs.toList k vs⟩
  | [], k, cs, _, _ => rfl
  | v :: r, k, cs, h1, h2 => by
    have hv := h1 v (List.mem_cons_self ..)
    simp only [List.length_cons] at h2
    simp only [List.zipIdx_cons, List.map_cons, Instr.fill, hv, List.size_toArray, List.length_cons, List.length_nil, Nat.zero_add, Nat.mul_one, ne_eq, not_true_eq_false, decide_false, Bool.false_or]
    rw [if_neg (by simp; omega)]
    have e : Array.foldl (fun cs x => cs.setIfInBounds (k + x.2) x.1) cs (#[v].zipIdx) = cs.setIfInBounds k v := by simp [Array.zipIdx]
    rw [show (Array.foldl (fun cs (x : Value × Nat) => match x with | (c, j) => cs.setIfInBounds (k + j) c) cs (#[v].zipIdx)) = cs.setIfInBounds k v from e]
    have ih := fill_from z r (k + 1) (cs.setIfInBounds k v) (fun u hu => h1 u (List.mem_cons_of_mem _ hu)) (by simp; omega)
    simp only [Nat.mul_one] at ih
    rw [ih]
    simp [splice]
theorem bcells_list {z : Value} (vs : List Value) (h1 : ∀ v ∈ vs, v.cells = #[v]) : bcells z vs.length ((vs.zipIdx.map fun x => (x.2, x.1)).toArray) = some vs.toArray := by
  unfold bcells
  have h := fill_from z vs 0 ((Array.range (vs.length * 1)).map ((if vs.length * 1 = 0 then #[] else z.cells)[· % (if vs.length * 1 = 0 then #[] else z.cells).size]!)) h1 (by simp)
  rw [List.toList_toArray, h]
  congr 1
  rw [splice_eq _ _ _ (by simp)]
  simp
theorem bslice {P : Program} {t e : TypeId} {z : Value} {bytes n : Nat} {parts : Array (Nat × Value)} {cells : Array Value} {w : World} {K : Value → World → Prop} (ht : P.underlying t = some (.slice e)) (hE : ElemT P e z 1 bytes) (h24 : n ≤ 16777216)
    (hf : bcells z n parts = some cells) (hK : K (.slice (some ⟨w.heap.size, 0, none⟩) n n) (w.alloc (.cells cells e))) : runP P (Instr.buildSlice t n parts) w K := by
  obtain ⟨i, hi, hz, hs, hby⟩ := info_parts hE
  refine ⟨_, _, ?_, hK⟩
  have hsz : (Go.sizeOf e).run P w = .ok 1 w := by simp [Go.sizeOf, typeInfo, hi, hs]
  have hzr : (zeroValue e).run P w = .ok z w := by simp [zeroValue, typeInfo, hi, hz]
  unfold Instr.buildSlice
  rw [Sem.run_bind, run_un ht]
  simp only [Result.andThen_ok]
  rw [Sem.run_bind, hsz]
  simp only [Result.andThen_ok]
  rw [if_neg (by omega)]
  unfold bcells at hf
  by_cases h0 : n * 1 = 0
  · rw [if_pos h0] at hf
    rw [if_pos h0, Sem.run_bind]
    simp only [Sem.run_pure, Result.andThen_ok]
    rw [hf]
    rfl
  · rw [if_neg h0] at hf
    rw [if_neg h0, Sem.run_bind, hzr]
    simp only [Result.andThen_ok]
    rw [Sem.run_bind]
    simp only [Sem.run_pure, Result.andThen_ok]
    rw [hf]
    rfl

/-- a struct put together: the parts laid over a nought -/
def laid (place : Nat → Option (Nat × Nat)) : List Value → List (Nat × Value) → Option (List Value)
  | cs, [] => some cs
  | cs, (i, v) :: r => (place i).bind fun p => if v.cells.toList.length = p.2 ∧ p.1 + v.cells.toList.length ≤ cs.length then laid place (splice cs p.1 v.cells.toList) r else none
theorem foldl_splice : ∀ (vs : List Value) (k off : Nat) (cs : Array Value), ((vs.zipIdx k).foldl (fun (cs : Array Value) (x : Value × Nat) => cs.setIfInBounds (off + x.2) x.1) cs) = ⟨splice cs.toList (off + k) vs⟩
  | [], k, off, cs => rfl
  | v :: r, k, off, cs => by
    rw [List.zipIdx_cons, List.foldl_cons, foldl_splice r (k + 1) off]
    simp [splice, Nat.add_assoc]
theorem fill_laid (place : Nat → Option (Nat × Nat)) : ∀ (ps : List (Nat × Value)) (cs : Array Value) (out : List Value), laid place cs.toList ps = some out → Instr.fill place cs ps = some out.toArray
  | [], cs, out, h => by
    simp only [laid, Option.some.injEq] at h
    subst h
    rfl
  | (i, v) :: r, cs, out, h => by
    unfold laid at h
    unfold Instr.fill
    cases hp : place i with
    | none => rw [hp] at h; simp at h
    | some p =>
      obtain ⟨off, size⟩ := p
      rw [hp] at h
      simp only [Option.bind_some] at h
      split at h
      · rename_i hc
        simp only
        rw [if_neg (by have := hc.1; have := hc.2; simp at *; omega)]
        have e : (Array.foldl (fun (cs : Array Value) (x : Value × Nat) => match x with | (c, j) => cs.setIfInBounds (off + j) c) cs v.cells.zipIdx) = ⟨splice cs.toList off v.cells.toList⟩ := by
          have := foldl_splice v.cells.toList 0 off cs
          rw [← Array.foldl_toList, Array.toList_zipIdx]
          simpa using this
        rw [e]
        exact fill_laid place r _ out h
      · cases h
theorem build_struct {P : Program} {T : TypeId} {fs : Array Field} {z : Value} {parts : Array (Nat × Value)} {out : List Value} {K : Value → Prop} (hT : P.underlying T = some (.struct fs)) (hz : zer P T = some z) (hs : ∀ f ∈ fs, P.cellsOf f.type ≠ 0)
    (hf : laid (fun i => (fs[i]?).map fun f => (f.offset, P.cellsOf f.type)) z.cells.toList parts.toList = some out) (hK : K (.agg out.toArray)) : pureP P (Instr.build T parts) K := by
  refine ⟨_, fun w => ?_, hK⟩
  unfold Instr.build
  rw [Sem.run_bind, zero_run hz]
  simp only [Result.andThen_ok]
  rw [Sem.run_bind, run_un hT]
  simp only [Result.andThen_ok]
  have hm : (fs.mapM fun f => (do pure (f.offset, ← Go.sizeOf f.type) : Sem (Nat × Nat))).run P w = .ok (fs.map fun f => (f.offset, P.cellsOf f.type)) w := by
    obtain ⟨l⟩ := fs
    have key : ∀ l : List Field, (∀ f ∈ l, P.cellsOf f.type ≠ 0) → (l.mapM fun f => (do pure (f.offset, ← Go.sizeOf f.type) : Sem (Nat × Nat))).run P w = .ok (l.map fun f => (f.offset, P.cellsOf f.type)) w := by
      intro l
      induction l with
      | nil => intro _; simp
      | cons f r ih =>
        intro h
        rw [List.mapM_cons, Sem.run_bind, Sem.run_bind, size_run' (h f (List.mem_cons_self ..))]
        simp only [Result.andThen_ok, Sem.run_pure]
        rw [Sem.run_bind, ih fun f hf => h f (List.mem_cons_of_mem _ hf)]
        simp
    have e : ((⟨l⟩ : Array Field).mapM fun f => (do pure (f.offset, ← Go.sizeOf f.type) : Sem (Nat × Nat))) = List.toArray <$> l.mapM fun f => (do pure (f.offset, ← Go.sizeOf f.type) : Sem (Nat × Nat)) := Array.mapM_eq_mapM_toList
    rw [e, Sem.run_map, key l (fun f hf => hs f (by simpa using hf))]
    simp
  rw [Sem.run_bind, hm]
  simp only [Result.andThen_ok]
  have h2 := fill_laid (fun i => (fs.map fun f => (f.offset, P.cellsOf f.type))[i]?) parts.toList z.cells out (by simpa [Array.getElem?_map] using hf)
  rw [h2]
  rfl

theorem build_nil {P : Program} {T : TypeId} {fs : Array Field} {cs : Array Value} {K : Value → Prop} (hT : P.underlying T = some (.struct fs)) (hz : zer P T = some (.agg cs)) (hs : ∀ f ∈ fs, P.cellsOf f.type ≠ 0) (hK : K (.agg cs)) : pureP P (Instr.build T #[]) K :=
  build_struct (out := cs.toList) hT hz hs rfl hK

/-! ### Contracts -/
/-- function k, called with these, hands back a value of which, with the world behind the call, Post holds -/
def Ret (P : Program) (k : Nat) (args : Array Value) (w : World) (Post : Value → World → Prop) : Prop := Calls P k args w fun e w' => ∃ v, e = .returned v ∧ Post v w'
theorem Ret.mono {P : Program} {k : Nat} {args : Array Value} {w : World} {R R' : Value → World → Prop} (h : Ret P k args w R) (hr : ∀ v w', R v w' → R' v w') : Ret P k args w R' :=
  Calls.mono h fun _ w' ⟨v, he, hv⟩ => ⟨v, he, hr v w' hv⟩
theorem ret_of {P : Program} {f : FuncId} {fn : Func} {c : Code} {args : Array Value} {w : World} {R : Value → World → Prop} (hf : P.funcs[f]? = some fn) (hb : fn.body = some c) (hfit : fits fn.ntmps c = true) (hargs : args.size ≤ fn.ntmps)
    (h : code P c (init args.toList 0) w (post P fn.results.toList R)) : Ret P f args w R := by
  refine calls_of hf hb hfit hargs ?_
  have e : (fun (v : Value) w' => ∃ u, Ending.returned v = .returned u ∧ R u w') = R := by
    funext v w'
    apply propext
    constructor
    · rintro ⟨u, hu, hr⟩
      injection hu with hu
      subst hu
      exact hr
    · exact fun hr => ⟨v, rfl, hr⟩
  rw [e]
  exact h
theorem call_ok {P : Program} {k : Nat} {args : Array Value} {w : World} {R K : Value → World → Prop} (hc : ∀ args w, (callFunc k args).run P w = .ok (.enter k args) w) (h : Ret P k args w R) (hK : ∀ v w', R v w' → K v w') :
    callP P (.func (.func k) #[] #[]) args w K := by
  refine .inl ⟨hc, ?_⟩
  rw [Array.append_empty, Array.empty_append]
  exact h.mono hK
/-- a function of the library without a body -/
theorem call_ext {P : Program} {k : Nat} {args : Array Value} {w w' : World} {v : Value} {K : Value → World → Prop} (h : (callFunc k args).run P w = .ok (.value v) w') (hK : K v w') : callP P (.func (.func k) #[] #[]) args w K := by
  refine .inr ⟨v, w', ?_, hK⟩
  rw [Array.append_empty, Array.empty_append]
  exact h
theorem call_q {P : Program} {B k : Nat} {args : Array Value} {w : World} {v : Value} {K : Value → Prop} (hc : ∀ args w, (callFunc k args).run P w = .ok (.enter k args) w) (h : ∀ w1, Below B w w1 → Ret P k args w1 fun u w2 => u = v ∧ More w1 w2) (hK : K v) :
    callQ P B (.func (.func k) #[] #[]) args w K := by
  refine ⟨hc, v, fun w1 hb => ?_, hK⟩
  rw [Array.append_empty, Array.empty_append]
  refine Calls.mono (h w1 hb) ?_
  rintro e w2 ⟨u, rfl, rfl, hm⟩
  exact ⟨rfl, hm⟩
end Go.Proofs.RV
