/-
  Texts that the law stands on, part 3.
-/
import Derived.Test.YtofhbonnojooeaaGreatKPoliceBoxed2
import Derived.Laws.BytesArg
import Derived.Laws.StructEq
import Derived.ChangeArms
import Derived.OpenShut
import Derived.Deep.Slices
import Derived.SizedLaws
namespace Go.Proofs.RV
open Go Go.RowKit
set_option linter.unusedSimpArgs false

theorem st_cell {w : World} {b i : Nat} {e : TypeId} {cs : List Value} {v : Value} {K : World → Prop} (hb : Blk w b e cs) (hi : i < cs.length) (hv : v.oneCell' = true)
    (hK : ∀ w', Wr b w w' → Blk w' b e (cs.set i v) → K w') : stCell v ⟨b, i, none⟩ w K :=
  ⟨hv, ⟨_, by rw [hb.cell]; exact List.getElem?_eq_getElem hi⟩, hb.frozen i, hK _ (wr_setCell w b i v) (hb.set i v)⟩
theorem st_row {w : World} {b i n : Nat} {e : TypeId} {cs : List Value} {vs : Array Value} {K : World → Prop} (hb : Blk w b e cs) (hn : vs.size = n) (hi : i + n ≤ cs.length) (hv : ∀ u ∈ vs.toList, u.oneCell' = true)
    (hK : ∀ w', Wr b w w' → Blk w' b e (splice cs i vs.toList) → K w') : stRow n vs ⟨b, i, none⟩ w K := by
  refine ⟨rfl, hn, fun j hj => ⟨?_, hb.frozen _⟩, fun u hu => hv u (by simpa using hu), hK _ (wr_setCells b _ i w) (Blk.sets _ i w cs hb)⟩
  rw [hb.cell, List.getElem?_eq_getElem (show i + j < cs.length by omega)]
  rfl
theorem st_all {w : World} {b n : Nat} {e : TypeId} {cs : List Value} {vs : Array Value} {K : World → Prop} (hb : Blk w b e cs) (hn : vs.size = n) (hc : cs.length = n) (hv : ∀ u ∈ vs.toList, u.oneCell' = true)
    (hK : ∀ w', Wr b w w' → Blk w' b e vs.toList → K w') : stRow n vs ⟨b, 0, none⟩ w K := by
  refine st_row hb hn (by omega) hv fun w' h1 h2 => hK w' h1 ?_
  rw [splice_eq _ _ _ (by simp [hn, hc])] at h2
  rw [List.drop_eq_nil_of_le (by simp [hn, hc])] at h2
  simpa using h2
theorem ld_row {w : World} {b i n : Nat} {e : TypeId} {cs : List Value} {K : Value → Prop} (hb : Blk w b e cs) (hi : i + n ≤ cs.length) (hK : K (.agg ((cs.drop i).take n).toArray)) : ldRow n ⟨b, i, none⟩ w K := by
  refine ⟨_, by simp; omega, fun j hj => ?_, hK⟩
  rw [add_mk, hb.cell]
  simp [List.getElem?_take, hj]
def ElemT (P : Program) (e : TypeId) (z : Value) (size bytes : Nat) : Prop := (P.info? e).map (fun i => (i.zero, i.size, i.bytes)) = some (some z, size, bytes)
abbrev Own (w : World) (B : Nat) (e : TypeId) (size : Nat) (A : Option Addr) (n c : Nat) (xs : List Value) : Prop := w.ownsRow B e size (.slice A n c) n xs
theorem Own.cs {w : World} {B e size n c : Nat} {A : Option Addr} {xs : List Value} (h : Own w B e size A n c xs) : Cs w A xs := by
  rcases h.2 with ⟨hv, hn⟩ | ⟨g, cap, cur, hv, hB, hh, hnc, _, _, ht⟩
  · have : xs = [] := List.eq_nil_of_length_eq_zero (by rw [h.1, hn, Nat.zero_mul])
    subst this
    exact Cs.nil _ _
  · injection hv with h1 h2 h3
    subst h1
    intro i v hi
    exact ⟨_, rfl, h.cells (g := g) rfl i v hi⟩
theorem Own.le {w : World} {B e size n c : Nat} {A : Option Addr} {xs : List Value} (h : Own w B e size A n c xs) : n ≤ c := by
  rcases h.2 with ⟨hv, hn⟩ | ⟨g, cap, cur, hv, hB, hh, hnc, _, _, ht⟩
  · omega
  · injection hv with h1 h2 h3; omega
theorem Own.mono {w : World} {B B' e size n c : Nat} {A : Option Addr} {xs : List Value} (h : Own w B e size A n c xs) (hB : B' ≤ B) : Own w B' e size A n c xs := by
  refine ⟨h.1, ?_⟩
  rcases h.2 with h1 | ⟨g, cap, cur, hv, hb, rest⟩
  · exact .inl h1
  · exact .inr ⟨g, cap, cur, hv, by omega, rest⟩
theorem Own.blk {w : World} {B e size n c : Nat} {A : Option Addr} {xs : List Value} (h : Own w B e size A n c xs) : (A = none ∧ n = 0) ∨ ∃ g, A = some ⟨g, 0, none⟩ ∧ B ≤ g ∧ g < w.heap.size ∧ ∃ cur, Blk w g e cur := by
  rcases h.2 with ⟨hv, hn⟩ | ⟨g, cap, cur, hv, hB, hh, hnc, _, _, ht⟩
  · injection hv with h1; exact .inl ⟨h1, hn⟩
  · injection hv with h1 h2 h3
    exact .inr ⟨g, h1, hB, (Array.getElem?_eq_some_iff.1 hh).1, cur.toList, by unfold Blk; simpa using hh⟩
theorem Own.keep {w w' : World} {B e size n c : Nat} {A : Option Addr} {xs : List Value} (h : Own w B e size A n c xs) (hk : ∀ g, A = some ⟨g, 0, none⟩ → g < w.heap.size → w'.heap[g]? = w.heap[g]?) : Own w' B e size A n c xs := by
  refine ⟨h.1, ?_⟩
  rcases h.2 with h1 | ⟨g, cap, cur, hv, hB, hh, rest⟩
  · exact .inl h1
  · refine .inr ⟨g, cap, cur, hv, hB, ?_, rest⟩
    injection hv with h1
    rw [hk g h1 (Array.getElem?_eq_some_iff.1 hh).1]
    exact hh
theorem Own.more {w w' : World} {B e size n c : Nat} {A : Option Addr} {xs : List Value} (h : Own w B e size A n c xs) (hm : More w w') : Own w' B e size A n c xs := h.keep fun g _ hg => hm.block g hg
theorem Own.wr {w w' : World} {B e size n c b : Nat} {A : Option Addr} {xs : List Value} (h : Own w B e size A n c xs) (hw : Wr b w w') (hne : ∀ g, A = some ⟨g, 0, none⟩ → g ≠ b) : Own w' B e size A n c xs :=
  h.keep fun g hg _ => hw.block g (hne g hg)
theorem Own.nil (w : World) (B e size : Nat) : Own w B e size none 0 0 [] := World.ownsRow_nil w B e size
theorem Own.made (w : World) (e size : Nat) (cs : Array Value) (n : Nat) (hn : cs.size = n * size) (hm : n ≤ maxLen) {B : Nat} (hB : B ≤ w.heap.size) : Own (w.alloc (.cells cs e)) B e size (some ⟨w.heap.size, 0, none⟩) n n cs.toList :=
  World.ownsRow_lit w cs n hB hm hn

section
variable {P : Program}
theorem run_app_none {t ty e : TypeId} {i : TypeInfo} {B size n c c2 : Nat} {A : Option Addr} {xs : List Value} {w : World} (ht : P.underlying t = some (.slice e)) (hi : P.info? e = some i) (hown : Own w B e size A n c xs) :
    (Builtin.append_ #[t, t] ty #[.slice A n c, .slice none 0 c2]).run P w = .ok (.slice A n c) w := by
  rcases hown.2 with ⟨hv, rfl⟩ | ⟨g, cap, cur, hv, _, _, hnc, _⟩
  · rw [hv]
    simp [Builtin.append_, run_underlying ht, sizeOf, typeInfo, hi, Builtin.lenOf, Builtin.firstCells]
  · rw [hv]
    simp [Builtin.append_, run_underlying ht, sizeOf, typeInfo, hi, Builtin.lenOf, Builtin.firstCells, hnc, storeCells]
theorem app_own {t ty e : TypeId} {z : Value} {size bytes B n c m c2 : Nat} {A A2 : Option Addr} {xs news : List Value} {w : World} {K : Value → World → Prop} (ht : P.underlying t = some (.slice e)) (hE : ElemT P e z size bytes) (hzs : z.cells.size = size) (hsz : 0 < size)
    (hown : Own w B e size A n c xs) (hsrc : Cs w A2 news) (hl : news.length = m * size) (h1 : ∀ u ∈ news, u.oneCell' = true) (h63 : n + m ≤ maxLen) (hbytes : (n + m) * bytes ≤ 140737488355328) (hB : B ≤ w.heap.size)
    (hK : ∀ A' c' w', Own w' B e size A' (n + m) c' (xs ++ news) → w.grownBy w' (Value.slice A n c).ownBlock → ((Value.slice A' (n + m) c').ownBlock = (Value.slice A n c).ownBlock ∨ (Value.slice A' (n + m) c').ownBlock = some w.heap.size) → K (.slice A' (n + m) c') w') :
    runP P (Builtin.append_ #[t, t] ty #[.slice A n c, .slice A2 m c2]) w K := by
  obtain ⟨i, hi, hz, hs, hby⟩ := info_parts hE
  have fin : ∀ v' w', w'.ownsRow B e size v' (n + m) (xs ++ news) → w.grownBy w' (Value.slice A n c).ownBlock → (v'.ownBlock = (Value.slice A n c).ownBlock ∨ v'.ownBlock = some w.heap.size) → K v' w' := by
    intro v' w' ho hg hat
    rcases ho.2 with ⟨hv, hn⟩ | ⟨g, cap, cur, hv, rest⟩
    · subst hv
      have e1 : (Value.slice none 0 0) = .slice none (n + m) 0 := by rw [hn]
      rw [e1] at ho hat ⊢
      exact hK _ _ _ ho hg hat
    · subst hv
      exact hK _ _ _ ho hg hat
  rcases A2 with _ | ad
  · have hn : news = [] := by
      cases news with
      | nil => rfl
      | cons u r =>
        obtain ⟨a, ha, _⟩ := hsrc 0 u (by simp)
        cases ha
    subst hn
    have hm : m = 0 := by
      have : m * size = 0 := by simpa using hl.symm
      rcases Nat.mul_eq_zero.1 this with h | h <;> omega
    subst hm
    exact ⟨.slice A n c, w, run_app_none ht hi hown, fin _ _ (by simpa using hown) (World.grownBy.refl w _) (.inl rfl)⟩
  · have hcells : ∀ (j : Nat) (u : Value), news[j]? = some u → w.cell? (ad.add j) = some u := by
      intro j u hu
      obtain ⟨a, ha, hc⟩ := hsrc j u hu
      injection ha with ha
      subst ha
      exact hc
    obtain ⟨v', w', hrun, h2, h3, _, h5⟩ := run_append_own_at (P := P) w B t ty e i z size bytes ht hi hz hs hby hzs hsz (.slice A n c) n xs hown ad m c2 news hl hcells h1 h63 hbytes hB
    exact ⟨v', w', hrun, fin _ _ h2 h3 h5⟩

theorem grown_below {B n c : Nat} {A : Option Addr} {a w w' : World} {e size : Nat} {xs : List Value} (hown : Own w B e size A n c xs) (hb : Below B a w) (hs : B ≤ w.heap.size) (hg : w.grownBy w' (Value.slice A n c).ownBlock) : Below B a w' :=
  hb.grown hg hs fun k hk => (hown.lt k hk).1
end

def bcells (z : Value) (n : Nat) (parts : Array (Nat × Value)) : Option (Array Value) :=
  Instr.fill (fun i => some (i * 1, 1)) ((Array.range (n * 1)).map ((if n * 1 = 0 then #[] else z.cells)[· % (if n * 1 = 0 then #[] else z.cells).size]!)) parts.toList
theorem fill_from (z : Value) : ∀ (vs : List Value) (k : Nat) (cs : Array Value), (∀ v ∈ vs, v.cells = #[v]) → k + vs.length ≤ cs.size →
    Instr.fill (fun i => some (i * 1, 1)) cs ((vs.zipIdx k).map fun x => (x.2, x.1)) = some ⟨splice cs.toList k vs⟩
  | [], k, cs, _, _ => rfl
  | v :: r, k, cs, h1, h2 => by
    have hv := h1 v (List.mem_cons_self ..)
    simp only [List.length_cons] at h2
    simp only [List.zipIdx_cons, List.map_cons, Instr.fill, hv, List.size_toArray, List.length_cons, List.length_nil, Nat.zero_add, Nat.mul_one, ne_eq, not_true_eq_false, decide_false, Bool.false_or]
    rw [if_neg (by simp; omega)]
    have e : Array.foldl (fun cs x => cs.setIfInBounds (k + x.2) x.1) cs (#[v].zipIdx) = cs.setIfInBounds k v := by simp [Array.zipIdx]
    rw [show (Array.foldl (fun cs (x : Value × Nat) => match x with | (c, j) => cs.setIfInBounds (k + j) c) cs (#[v].zipIdx)) = cs.setIfInBounds k v from e]
    have ih := fill_from z r (k + 1) (cs.setIfInBounds k v) (fun u hu => h1 u (List.mem_cons_of_mem _ hu)) (by simp; omega)
    simp only [Nat.mul_one] at ih
    rw [ih]
    simp [splice]
theorem bcells_list {z : Value} (vs : List Value) (h1 : ∀ v ∈ vs, v.cells = #[v]) : bcells z vs.length ((vs.zipIdx.map fun x => (x.2, x.1)).toArray) = some vs.toArray := by
  unfold bcells
  have h := fill_from z vs 0 ((Array.range (vs.length * 1)).map ((if vs.length * 1 = 0 then #[] else z.cells)[· % (if vs.length * 1 = 0 then #[] else z.cells).size]!)) h1 (by simp)
  rw [List.toList_toArray, h]
  congr 1
  rw [splice_eq _ _ _ (by simp)]
  simp
theorem bslice {P : Program} {t e : TypeId} {z : Value} {bytes n : Nat} {parts : Array (Nat × Value)} {cells : Array Value} {w : World} {K : Value → World → Prop} (ht : P.underlying t = some (.slice e)) (hE : ElemT P e z 1 bytes) (h24 : n ≤ 16777216)
    (hf : bcells z n parts = some cells) (hK : K (.slice (some ⟨w.heap.size, 0, none⟩) n n) (w.alloc (.cells cells e))) : runP P (Instr.buildSlice t n parts) w K := by
  obtain ⟨i, hi, hz, hs, hby⟩ := info_parts hE
  refine ⟨_, _, ?_, hK⟩
  have hsz : (Go.sizeOf e).run P w = .ok 1 w := by simp [Go.sizeOf, typeInfo, hi, hs]
  have hzr : (zeroValue e).run P w = .ok z w := by simp [zeroValue, typeInfo, hi, hz]
  unfold Instr.buildSlice
  rw [Sem.run_bind, run_un ht]
  simp only [Result.andThen_ok]
  rw [Sem.run_bind, hsz]
  simp only [Result.andThen_ok]
  rw [if_neg (by omega)]
  unfold bcells at hf
  by_cases h0 : n * 1 = 0
  · rw [if_pos h0] at hf
    rw [if_pos h0, Sem.run_bind]
    simp only [Sem.run_pure, Result.andThen_ok]
    rw [hf]
    rfl
  · rw [if_neg h0] at hf
    rw [if_neg h0, Sem.run_bind, hzr]
    simp only [Result.andThen_ok]
    rw [Sem.run_bind]
    simp only [Sem.run_pure, Result.andThen_ok]
    rw [hf]
    rfl

def laid (place : Nat → Option (Nat × Nat)) : List Value → List (Nat × Value) → Option (List Value)
  | cs, [] => some cs
  | cs, (i, v) :: r => (place i).bind fun p => if v.cells.toList.length = p.2 ∧ p.1 + v.cells.toList.length ≤ cs.length then laid place (splice cs p.1 v.cells.toList) r else none
theorem foldl_splice : ∀ (vs : List Value) (k off : Nat) (cs : Array Value), ((vs.zipIdx k).foldl (fun (cs : Array Value) (x : Value × Nat) => cs.setIfInBounds (off + x.2) x.1) cs) = ⟨splice cs.toList (off + k) vs⟩
  | [], k, off, cs => rfl
  | v :: r, k, off, cs => by
    rw [List.zipIdx_cons, List.foldl_cons, foldl_splice r (k + 1) off]
    simp [splice, Nat.add_assoc]
theorem fill_laid (place : Nat → Option (Nat × Nat)) : ∀ (ps : List (Nat × Value)) (cs : Array Value) (out : List Value), laid place cs.toList ps = some out → Instr.fill place cs ps = some out.toArray
  | [], cs, out, h => by
    simp only [laid, Option.some.injEq] at h
    subst h
    rfl
  | (i, v) :: r, cs, out, h => by
    unfold laid at h
    unfold Instr.fill
    cases hp : place i with
    | none => rw [hp] at h; simp at h
    | some p =>
      obtain ⟨off, size⟩ := p
      rw [hp] at h
      simp only [Option.bind_some] at h
      split at h
      · rename_i hc
        simp only
        rw [if_neg (by have := hc.1; have := hc.2; simp at *; omega)]
        have e : (Array.foldl (fun (cs : Array Value) (x : Value × Nat) => match x with | (c, j) => cs.setIfInBounds (off + j) c) cs v.cells.zipIdx) = ⟨splice cs.toList off v.cells.toList⟩ := by
          have := foldl_splice v.cells.toList 0 off cs
          rw [← Array.foldl_toList, Array.toList_zipIdx]
          simpa using this
        rw [e]
        exact fill_laid place r _ out h
      · cases h
theorem build_struct {P : Program} {T : TypeId} {fs : Array Field} {z : Value} {parts : Array (Nat × Value)} {out : List Value} {K : Value → Prop} (hT : P.underlying T = some (.struct fs)) (hz : zer P T = some z) (hs : ∀ f ∈ fs, P.cellsOf f.type ≠ 0)
    (hf : laid (fun i => (fs[i]?).map fun f => (f.offset, P.cellsOf f.type)) z.cells.toList parts.toList = some out) (hK : K (.agg out.toArray)) : pureP P (Instr.build T parts) K := by
  refine ⟨_, fun w => ?_, hK⟩
  unfold Instr.build
  rw [Sem.run_bind, zero_run hz]
  simp only [Result.andThen_ok]
  rw [Sem.run_bind, run_un hT]
  simp only [Result.andThen_ok]
  have hm : (fs.mapM fun f => (do pure (f.offset, ← Go.sizeOf f.type) : Sem (Nat × Nat))).run P w = .ok (fs.map fun f => (f.offset, P.cellsOf f.type)) w := by
    obtain ⟨l⟩ := fs
    have key : ∀ l : List Field, (∀ f ∈ l, P.cellsOf f.type ≠ 0) → (l.mapM fun f => (do pure (f.offset, ← Go.sizeOf f.type) : Sem (Nat × Nat))).run P w = .ok (l.map fun f => (f.offset, P.cellsOf f.type)) w := by
      intro l
      induction l with
      | nil => intro _; simp
      | cons f r ih =>
        intro h
        rw [List.mapM_cons, Sem.run_bind, Sem.run_bind, size_run' (h f (List.mem_cons_self ..))]
        simp only [Result.andThen_ok, Sem.run_pure]
        rw [Sem.run_bind, ih fun f hf => h f (List.mem_cons_of_mem _ hf)]
        simp
    have e : ((⟨l⟩ : Array Field).mapM fun f => (do pure (f.offset, ← Go.sizeOf f.type) : Sem (Nat × Nat))) = List.toArray <$> l.mapM fun f => (do pure (f.offset, ← Go.sizeOf f.type) : Sem (Nat × Nat)) := Array.mapM_eq_mapM_toList
    rw [e, Sem.run_map, key l (fun f hf => hs f (by simpa using hf))]
    simp
  rw [Sem.run_bind, hm]
  simp only [Result.andThen_ok]
  have h2 := fill_laid (fun i => (fs.map fun f => (f.offset, P.cellsOf f.type))[i]?) parts.toList z.cells out (by simpa [Array.getElem?_map] using hf)
  rw [h2]
  rfl

def Ret (P : Program) (k : Nat) (args : Array Value) (w : World) (Post : Value → World → Prop) : Prop := Calls P k args w fun e w' => ∃ v, e = .returned v ∧ Post v w'
theorem Ret.mono {P : Program} {k : Nat} {args : Array Value} {w : World} {R R' : Value → World → Prop} (h : Ret P k args w R) (hr : ∀ v w', R v w' → R' v w') : Ret P k args w R' :=
  Calls.mono h fun _ w' ⟨v, he, hv⟩ => ⟨v, he, hr v w' hv⟩
theorem ret_of {P : Program} {f : FuncId} {fn : Func} {c : Code} {args : Array Value} {w : World} {R : Value → World → Prop} (hf : P.funcs[f]? = some fn) (hb : fn.body = some c) (hfit : fits fn.ntmps c = true) (hargs : args.size ≤ fn.ntmps)
    (h : code P c (init args.toList 0) w (post P fn.results.toList R)) : Ret P f args w R := by
  refine calls_of hf hb hfit hargs ?_
  have e : (fun (v : Value) w' => ∃ u, Ending.returned v = .returned u ∧ R u w') = R := by
    funext v w'
    apply propext
    constructor
    · rintro ⟨u, hu, hr⟩
      injection hu with hu
      subst hu
      exact hr
    · exact fun hr => ⟨v, rfl, hr⟩
  rw [e]
  exact h
theorem call_ok {P : Program} {k : Nat} {args : Array Value} {w : World} {R K : Value → World → Prop} (hc : ∀ args w, (callFunc k args).run P w = .ok (.enter k args) w) (h : Ret P k args w R) (hK : ∀ v w', R v w' → K v w') :
    callP P (.func (.func k) #[] #[]) args w K := by
  refine .inl ⟨hc, ?_⟩
  rw [Array.append_empty, Array.empty_append]
  exact h.mono hK
theorem call_ext {P : Program} {k : Nat} {args : Array Value} {w w' : World} {v : Value} {K : Value → World → Prop} (h : (callFunc k args).run P w = .ok (.value v) w') (hK : K v w') : callP P (.func (.func k) #[] #[]) args w K := by
  refine .inr ⟨v, w', ?_, hK⟩
  rw [Array.append_empty, Array.empty_append]
  exact h
set_option linter.unusedVariables false

def bstr (l : List UInt8) : ByteArray := ⟨l.toArray⟩
theorem Cs.isAt {w : World} {A : Option Addr} {l : List UInt8} (h : Bs w A l) (hl : 0 < l.length) : ∃ a, A = some a := by
  obtain ⟨a, ha, _⟩ := h.at_ hl
  exact ⟨a, ha⟩
theorem Cs.cellN {w : World} {a : Addr} {l : List UInt8} (h : Bs w (some a) l) {i : Nat} (hi : i < l.length) : w.cell? (a.add i) = some (.int .u8 (bt l i)) := by
  obtain ⟨a', ha, hc⟩ := h.at_ hi
  cases ha
  exact hc
def u8 (x : Int) : UInt8 := UInt8.ofNat x.toNat
theorem byteV_u8 {x : Int} (h0 : 0 ≤ x) (h1 : x < 256) : byteV (u8 x) = .int .u8 x := by
  unfold byteV u8
  congr 1
  rw [UInt8.toNat_ofNat']
  omega
theorem Own.st {w : World} {B : Nat} {e : TypeId} {n c i : Nat} {a : Addr} {xs : List Value} {v : Value} {K : World → Prop} (h : Own w B e 1 (some a) n c xs) (hi : i < n) (hv : v.oneCell' = true)
    (hK : ∀ w', Wr a.block w w' → B ≤ a.block → Own w' B e 1 (some a) n c (xs.set i v) → K w') : stCell v (a.add i) w K := by
  obtain ⟨h1, h2⟩ := h
  rcases h2 with ⟨hh, _⟩ | ⟨g, cap, cur, hh, hB, hg, hnc, hm, hs, ht⟩
  · cases hh
  · simp only [Value.slice.injEq, Option.some.injEq] at hh
    obtain ⟨rfl, -, rfl⟩ := hh
    have hb : Blk w g e cur.toList := by unfold Blk; simpa using hg
    rw [add_mk, Nat.zero_add]
    refine st_cell hb (by simp only [Array.length_toList]; omega) hv fun w' k1 k2 => hK w' k1 hB ?_
    refine ⟨by simpa using h1, .inr ⟨g, c, (cur.toList.set i v).toArray, rfl, hB, k2, hnc, hm, by simpa using hs, ?_⟩⟩
    rw [List.toList_toArray, ← ht, List.take_set]
theorem pure_eq {P : Program} {s : Sem Value} {v : Value} (h : ∀ w, s.run P w = .ok v w) (w0 : World) (K : Value → Prop) : pureP P s K = K v :=
  propext ⟨fun ⟨u, h1, h2⟩ => by
    have := (h w0).symm.trans (h1 w0)
    injection this with this
    subst this
    exact h2, fun hk => ⟨v, h, hk⟩⟩
theorem runP_eq {P : Program} {s : Sem Value} {v : Value} {w w' : World} (h : s.run P w = .ok v w') (K : Value → World → Prop) : runP P s w K = K v w' :=
  propext ⟨fun ⟨u, w1, h1, h2⟩ => by
    have := h.symm.trans h1
    injection this with h3 h4
    subst h3 h4
    exact h2, fun hk => ⟨v, w', h, hk⟩⟩
theorem Blk.row_eq {w : World} {b : Nat} {e : TypeId} {cs : List Value} (h : Blk w b e cs) (i n : Nat) (hi : i + n ≤ cs.length) (K : Value → Prop) : ldRow n ⟨b, i, none⟩ w K = K (.agg ((cs.drop i).take n).toArray) := by
  refine propext ⟨fun ⟨us, h1, h2, h3⟩ => ?_, fun hk => ld_row h hi hk⟩
  have : us = ((cs.drop i).take n).toArray := by
    apply Array.ext (by simp [h1]; omega)
    intro j hj hj'
    have h4 := h2 j (by omega)
    rw [add_mk, h.cell, Array.getElem?_eq_getElem hj, List.getElem?_eq_getElem (by omega)] at h4
    simp only [Option.some.injEq] at h4
    simp [h4]
  rw [← this]
  exact h3
theorem Blk.all_eq {w : World} {b : Nat} {e : TypeId} {cs : List Value} (h : Blk w b e cs) (n : Nat) (hn : cs.length = n) (K : Value → Prop) : ldRow n ⟨b, 0, none⟩ w K = K (.agg cs.toArray) := by
  rw [h.row_eq 0 n (by omega), List.drop_zero, List.take_of_length_le (by omega)]

theorem build_eq {P : Program} {T : TypeId} {fs : Array Field} {z : Value} (hT : P.underlying T = some (.struct fs)) (hz : zer P T = some z) (hs : ∀ f ∈ fs, P.cellsOf f.type ≠ 0) {parts : Array (Nat × Value)} {out : List Value}
    (hf : laid (fun i => (fs[i]?).map fun f => (f.offset, P.cellsOf f.type)) z.cells.toList parts.toList = some out) (w0 : World) (K : Value → Prop) : pureP P (Instr.build T parts) K = K (.agg out.toArray) := by
  obtain ⟨v, hv, rfl⟩ := build_struct (K := fun v => v = .agg out.toArray) hT hz hs hf rfl
  exact pure_eq hv w0 K
def ldC (d : TypeDesc) (o : Option Value) (K : Value → Prop) (_ : Mark K) : Prop :=
  match d with
  | .int k => ∃ x, o = some (.int k x) ∧ K (.int k x)
  | .bool => ∃ x, o = some (.bool x) ∧ K (.bool x)
  | .string => ∃ x, o = some (.string x) ∧ K (.string x)
  | .pointer _ => ∃ x, o = some (.pointer x) ∧ K (.pointer x)
  | .slice _ => ∃ A m c, o = some (.slice A m c) ∧ K (.slice A m c)
  | _ => False
section
variable {w : World}
theorem hc_int (k : IntKind) (n : Nat) (a : Addr) (K : Value → Prop) : ldO (some (.int k)) n a w K = ldC (.int k) (w.cell? a) K .mk := propext Iff.rfl
theorem hc_bool (n : Nat) (a : Addr) (K : Value → Prop) : ldO (some .bool) n a w K = ldC .bool (w.cell? a) K .mk := propext Iff.rfl
theorem hc_string (n : Nat) (a : Addr) (K : Value → Prop) : ldO (some .string) n a w K = ldC .string (w.cell? a) K .mk := propext Iff.rfl
theorem hc_pointer (k : TypeId) (n : Nat) (a : Addr) (K : Value → Prop) : ldO (some (.pointer k)) n a w K = ldC (.pointer k) (w.cell? a) K .mk := propext Iff.rfl
theorem hc_slice (k : TypeId) (n : Nat) (a : Addr) (K : Value → Prop) : ldO (some (.slice k)) n a w K = ldC (.slice k) (w.cell? a) K .mk := propext Iff.rfl
theorem lc_int (k : IntKind) (x : Int) (K : Value → Prop) (m : Mark K) : ldC (.int k) (some (.int k x)) K m = K (.int k x) := by simp [ldC]
theorem lc_bool (x : Bool) (K : Value → Prop) (m : Mark K) : ldC .bool (some (.bool x)) K m = K (.bool x) := by simp [ldC]
theorem lc_string (x : ByteArray) (K : Value → Prop) (m : Mark K) : ldC .string (some (.string x)) K m = K (.string x) := by simp [ldC]
theorem lc_pointer (t : TypeId) (x : Option Addr) (K : Value → Prop) (m : Mark K) : ldC (.pointer t) (some (.pointer x)) K m = K (.pointer x) := by simp [ldC]
theorem lc_slice (t : TypeId) (A : Option Addr) (n c : Nat) (K : Value → Prop) (m : Mark K) : ldC (.slice t) (some (.slice A n c)) K m = K (.slice A n c) := propext ⟨fun ⟨A', n', c', h, hk⟩ => by
  simp only [Option.some.injEq, Value.slice.injEq] at h
  obtain ⟨rfl, rfl, rfl⟩ := h
  exact hk, fun hk => ⟨A, n, c, rfl, hk⟩⟩
end
def condB (b : Bool) (A B : Prop) (_ : Mark A) (_ : Mark B) : Prop := condP (.bool b) A B
def pickB (b : Bool) (x y : Value) (K : Value → Prop) (_ : Mark K) : Prop := K (if b = true then x else y)
theorem dx (b : Bool) (A B : Prop) : condP (.bool b) A B = condB b A B .mk .mk := propext Iff.rfl
theorem gx_t (b : Bool) (t : Nat) (e : Env) (A B : Env → Prop) : guardB (.bool b) t true e A B = condB b (A (up e t (.bool true))) (B (up e t (.bool false))) .mk .mk := by
  simp [guardB, condB, condP]
theorem gx_f (b : Bool) (t : Nat) (e : Env) (A B : Env → Prop) : guardB (.bool b) t false e A B = condB b (B (up e t (.bool true))) (A (up e t (.bool false))) .mk .mk := by
  simp [guardB, condB, condP]
  exact And.comm
theorem kx (b : Bool) (x y : Value) (K : Value → Prop) : pickP (.bool b) x y K = pickB b x y K .mk := propext Iff.rfl
theorem px_true (x y : Value) (K : Value → Prop) (m : Mark K) : pickB true x y K m = K x := propext Iff.rfl
theorem px_false (x y : Value) (K : Value → Prop) (m : Mark K) : pickB false x y K m = K y := propext Iff.rfl
section
variable (A B : Prop) (m : Mark A) (m' : Mark B)
theorem cx_true : condB true A B m m' = A := by simp [condB, condP]
theorem cx_false : condB false A B m m' = B := by simp [condB, condP]
theorem cx_decide (p : Prop) [Decidable p] : condB (decide p) A B m m' = ((p → A) ∧ (¬p → B)) := by simp [condB, condP]
theorem cx_not (b : Bool) : condB (!b) A B m m' = condB b B A .mk .mk := by cases b <;> simp [condB, condP]
theorem cx_beq (a b : List UInt8) : condB (a == b) A B m m' = ((a = b → A) ∧ (a ≠ b → B)) := by
  simp [condB, condP]
theorem cx_none {α : Type} (o : Option α) : condB o.isNone A B m m' = ((o = none → A) ∧ (o ≠ none → B)) := by
  cases o <;> simp [condB, condP]
end
end Go.Proofs.RV
namespace Go.Proofs.RV
open Go Go.RowKit Go.ChangeShapes Go.WideShapes
set_option linter.unusedSimpArgs false
set_option linter.unusedVariables false

def Lays (P : Program) (w : World) : Nat → TypeId → List Value → Prop
  | 0, _, _ => False
  | n + 1, t, cs =>
    match P.underlying t with
    | some .bool => ∃ b, cs = [.bool b]
    | some (.int k) => ∃ x, cs = [.int k x] ∧ (Lit.int k x).wf = true
    | some .string => ∃ s : ByteArray, cs = [.string s] ∧ s.size ≤ maxLen
    | some (.slice e) => cs = [.slice none 0 0] ∨ ∃ (a : Addr) (len cap : Nat), cs = [.slice (some a) len cap] ∧ len ≤ cap ∧ cap ≤ maxLen ∧
        ∀ i, i < len → ∃ cs' : List Value, cs'.length = P.cellsOf e ∧ (∀ j u, cs'[j]? = some u → w.cell? (a.add (i * P.cellsOf e + j)) = some u) ∧ Lays P w n e cs'
    | some (.struct fs) => cs.length = P.cellsOf t ∧ ∀ (i : Nat) (f : Field), fs[i]? = some f → Lays P w n f.type ((cs.drop f.offset).take (P.cellsOf f.type))
    | some (.array m e) => cs.length = P.cellsOf t ∧ ∀ i, i < m → Lays P w n e ((cs.drop (i * P.cellsOf e)).take (P.cellsOf e))
    | _ => True
section
variable {H : Type} {enc : TypeId × Value → H} {P : Program} {w : World} {base : Nat} {spare : Nat → Bool} {held : Bool}
theorem lays_of_trod : ∀ (n : Nat) (t : TypeId) (cs : List Value) (x : DataW H × List MemPlace), DataW.trod enc P w base spare held n t cs = some x → Lays P w n t cs
  | 0, t, cs, x, h => by simp [DataW.trod] at h
  | n + 1, t, cs, x, h => by
    unfold Lays
    split
    · rename_i ht
      obtain ⟨b, hb, _⟩ := DataW.trod_bool ht h
      exact ⟨b, hb⟩
    · rename_i k ht
      obtain ⟨y, hy, _, hw⟩ := DataW.trod_int ht h
      exact ⟨y, hy, hw⟩
    · rename_i ht
      obtain ⟨s, hs, _, hl⟩ := DataW.trod_string ht h
      exact ⟨s, hs, hl⟩
    · rename_i e ht
      rcases DataW.trod_slice ht h with ⟨h1, _⟩ | ⟨a, len, cap, elems, rest, m, hm, h1, _, _, h2, h3, h4, h5, _⟩
      · exact .inl h1
      · injection hm with hm
        subst hm
        refine .inr ⟨a, len, cap, h1, h2, h3, fun i hi => ?_⟩
        have h6 := h5 i hi
        rw [List.getElem?_eq_getElem (by omega)] at h6
        simp only [Option.bind_eq_some_iff] at h6
        obtain ⟨cs', h7, h8⟩ := h6
        obtain ⟨_, hl, hc⟩ := World.cells?_some h7
        refine ⟨cs', hl, fun j u hu => ?_, lays_of_trod n e cs' _ h8⟩
        have h9 := hc j (by rw [← hl]; exact (List.getElem?_eq_some_iff.1 hu).1)
        rw [hu, add_add] at h9
        exact h9
    · rename_i fs ht
      obtain ⟨xs, m, hm, _, hl, hx, hf⟩ := DataW.trod_struct ht h
      injection hm with hm
      subst hm
      refine ⟨hl, fun i f hi => ?_⟩
      have h6 := hf i f hi
      have hlt := (Array.getElem?_eq_some_iff.1 hi).1
      rw [List.getElem?_eq_getElem (by omega)] at h6
      exact lays_of_trod n _ _ _ h6
    · rename_i m e ht
      obtain ⟨xs, k, hk, _, hl, hx, hf⟩ := DataW.trod_array ht h
      injection hk with hk
      subst hk
      refine ⟨hl, fun i hi => ?_⟩
      have h6 := hf i hi
      rw [List.getElem?_eq_getElem (by omega)] at h6
      exact lays_of_trod n _ _ _ h6
    · trivial
end
section
variable {P : Program} {w : World} {n : Nat} {t : TypeId} {cs : List Value}
theorem Lays.bool (h : Lays P w n t cs) (ht : P.underlying t = some .bool) : ∃ b, cs = [.bool b] := by
  cases n with
  | zero => exact h.elim
  | succ n => unfold Lays at h; rw [ht] at h; exact h
theorem Lays.int {k : IntKind} (h : Lays P w n t cs) (ht : P.underlying t = some (.int k)) : ∃ x, cs = [.int k x] ∧ k.min ≤ x ∧ x ≤ k.max := by
  cases n with
  | zero => exact h.elim
  | succ n =>
    unfold Lays at h
    rw [ht] at h
    obtain ⟨x, hx, hw⟩ := h
    exact ⟨x, hx, by simpa [Lit.wf] using hw⟩
theorem Lays.field {fs : Array Field} (h : Lays P w n t cs) (ht : P.underlying t = some (.struct fs)) : cs.length = P.cellsOf t ∧ ∀ (i : Nat) (f : Field), fs[i]? = some f → ∃ m, Lays P w m f.type ((cs.drop f.offset).take (P.cellsOf f.type)) := by
  cases n with
  | zero => exact h.elim
  | succ n =>
    unfold Lays at h
    rw [ht] at h
    exact ⟨h.1, fun i f hi => ⟨n, h.2 i f hi⟩⟩
theorem Lays.fieldAt {fs : Array Field} (h : Lays P w n t cs) (ht : P.underlying t = some (.struct fs)) (i T off : Nat) {sz : Nat} (hf : (fs[i]?).map (fun f => (f.type, f.offset)) = some (T, off)) (hc : P.cellsOf T = sz) : ∃ m, Lays P w m T ((cs.drop off).take sz) := by
  cases hi : fs[i]? with
  | none => rw [hi] at hf; cases hf
  | some f =>
    rw [hi] at hf
    simp only [Option.map_some, Option.some.injEq, Prod.mk.injEq] at hf
    obtain ⟨rfl, rfl⟩ := hf
    rw [← hc]
    exact (h.field ht).2 i f hi
theorem Lays.elem {m e : Nat} (h : Lays P w n t cs) (ht : P.underlying t = some (.array m e)) : cs.length = P.cellsOf t ∧ ∀ i, i < m → ∃ k, Lays P w k e ((cs.drop (i * P.cellsOf e)).take (P.cellsOf e)) := by
  cases n with
  | zero => exact h.elim
  | succ n =>
    unfold Lays at h
    rw [ht] at h
    exact ⟨h.1, fun i hi => ⟨n, h.2 i hi⟩⟩
theorem Lays.slice {e : TypeId} (h : Lays P w n t cs) (ht : P.underlying t = some (.slice e)) : cs = [.slice none 0 0] ∨ ∃ (a : Addr) (len cap : Nat), cs = [.slice (some a) len cap] ∧ len ≤ cap ∧ cap ≤ maxLen ∧
        ∀ i, i < len → ∃ cs' : List Value, cs'.length = P.cellsOf e ∧ (∀ j u, cs'[j]? = some u → w.cell? (a.add (i * P.cellsOf e + j)) = some u) ∧ ∃ k, Lays P w k e cs' := by
  cases n with
  | zero => exact h.elim
  | succ n =>
    unfold Lays at h
    rw [ht] at h
    rcases h with h | ⟨a, len, cap, h1, h2, h3, h4⟩
    · exact .inl h
    · exact .inr ⟨a, len, cap, h1, h2, h3, fun i hi => by obtain ⟨cs', h5, h6, h7⟩ := h4 i hi; exact ⟨cs', h5, h6, n, h7⟩⟩
theorem ints_of {k : IntKind} : ∀ (m : Nat) (cs : List Value), cs.length = m → (∀ i, i < m → ∃ x, (cs.drop i).take 1 = [.int k x] ∧ k.min ≤ x ∧ x ≤ k.max) → ∃ l : List Int, l.length = m ∧ cs = l.map (Value.int k) ∧ ∀ x ∈ l, k.min ≤ x ∧ x ≤ k.max
  | 0, cs, hl, _ => ⟨[], rfl, by simpa using hl, by simp⟩
  | m + 1, [], hl, _ => by simp at hl
  | m + 1, v :: cs, hl, h => by
    obtain ⟨l, h1, h2, h3⟩ := ints_of m cs (by simpa using hl) fun i hi => by simpa using h (i + 1) (by omega)
    obtain ⟨x, hx, hr⟩ := h 0 (by omega)
    simp only [List.drop_zero, List.take_succ_cons, List.take_zero, List.cons.injEq, and_true] at hx
    subst hx h2
    exact ⟨x :: l, by simpa using h1, rfl, by simpa using ⟨hr, h3⟩⟩
theorem Lays.ints {m e : Nat} {k : IntKind} (h : Lays P w n t cs) (ht : P.underlying t = some (.array m e)) (he : P.underlying e = some (.int k)) (h1 : P.cellsOf e = 1) (hc : P.cellsOf t = m) : ∃ l : List Int, l.length = m ∧ cs = l.map (Value.int k) ∧ ∀ x ∈ l, k.min ≤ x ∧ x ≤ k.max := by
  obtain ⟨h2, h3⟩ := h.elem ht
  refine ints_of m cs (by omega) fun i hi => ?_
  obtain ⟨j, h4⟩ := h3 i hi
  rw [h1, Nat.mul_one] at h4
  exact h4.int he
theorem bytes_of (l : List Int) (h : ∀ x ∈ l, IntKind.u8.min ≤ x ∧ x ≤ IntKind.u8.max) : l.map (Value.int .u8) = (l.map u8).map byteV := by
  rw [List.map_map]
  refine List.map_congr_left fun x hx => ?_
  have := h x hx
  simp [IntKind.min, IntKind.max, IntKind.signed, IntKind.bits] at this
  exact (byteV_u8 (by omega) (by omega)).symm
theorem Lays.bytes {m e : Nat} (h : Lays P w n t cs) (ht : P.underlying t = some (.array m e)) (he : P.underlying e = some (.int .u8)) (h1 : P.cellsOf e = 1) (hc : P.cellsOf t = m) : ∃ l : List UInt8, l.length = m ∧ cs = l.map byteV := by
  obtain ⟨l, h2, h3, h4⟩ := h.ints ht he h1 hc
  exact ⟨l.map u8, by simpa using h2, by rw [h3, bytes_of l h4]⟩
theorem rows_of {M : Type} {E : M → List Value → Prop} {a : Addr} {s : Nat} : ∀ (len i0 : Nat), (∀ i, i < len → ∃ cs' : List Value, (∀ j u, cs'[j]? = some u → w.cell? (a.add ((i0 + i) * s + j)) = some u) ∧ ∃ m, E m cs') →
    ∃ ms : List M, ms.length = len ∧ ∀ (i : Nat) (m : M), ms[i]? = some m → ∃ cs' : List Value, (∀ j u, cs'[j]? = some u → w.cell? (a.add ((i0 + i) * s + j)) = some u) ∧ E m cs'
  | 0, i0, _ => ⟨[], rfl, by simp⟩
  | len + 1, i0, h => by
    obtain ⟨ms, h1, h2⟩ := rows_of len (i0 + 1) fun i hi => by
      have := h (i + 1) (by omega)
      rwa [show i0 + (i + 1) = i0 + 1 + i by omega] at this
    obtain ⟨cs', h3, m, h4⟩ := h 0 (by omega)
    refine ⟨m :: ms, by simpa using h1, fun i m' hi => ?_⟩
    cases i with
    | zero =>
      simp only [List.getElem?_cons_zero, Option.some.injEq] at hi
      subst hi
      exact ⟨cs', h3, h4⟩
    | succ i =>
      simp only [List.getElem?_cons_succ] at hi
      obtain ⟨cs2, h5, h6⟩ := h2 i m' hi
      exact ⟨cs2, by rwa [show i0 + 1 + i = i0 + (i + 1) by omega] at h5, h6⟩
theorem sized_row {H : Type} {enc : TypeId × Value → H} {W : World} {held : Bool} {e : TypeId} {A : Option Addr} {len c b : Nat} {d : DataW H} {p : List MemPlace} (hs : ∀ es sp, d = .slice es sp → (es.length + sp.length) * b ≤ reachBytes) (ht : P.underlying t = some (.slice e))
    (h : DataW.Trod enc P W 0 (fun _ => true) held t (.slice A len c) d p) : c * b ≤ reachBytes := by
  obtain ⟨fuel, hf⟩ := h
  rcases DataW.trod_slice ht hf with ⟨h1, _⟩ | ⟨a, l, cap, elems, rest, m, _, h1, hx, _, h2, _, h4, _, h5, _⟩
  · simp [Value.cells] at h1
    obtain ⟨_, _, rfl⟩ := h1
    simp
  · simp [Value.cells] at h1
    obtain ⟨_, rfl, rfl⟩ := h1
    have := hs _ _ (congrArg Prod.fst hx)
    rw [List.length_map, List.length_map, h4, (h5 rfl).1, show len + (c - len) = c by omega] at this
    exact this
theorem cut_at (cs : List Value) (i n : Nat) : cs.drop i = (cs.drop i).take n ++ cs.drop (i + n) := by
  rw [← List.drop_drop, List.take_append_drop]
theorem okWide_array {r : Reach} {base : Nat} {v : Value} {m : Nat} {e : TypeId} (ht : P.underlying t = some (.array m e)) (h : Value.okWide P w r base t v) : ∃ cs, v = .agg cs := by
  simp only [Value.okWide, ht] at h
  cases v <;> simp_all
end
end Go.Proofs.RV

namespace Go.Proofs.YtofhbonnojooeaaGreat
open Go Go.RowKit Go.Proofs.RV
set_option linter.unusedSimpArgs false

theorem w64 {x : Int} (h0 : -9223372036854775808 ≤ x) (h1 : x < 9223372036854775808) : IntKind.i64.wrap x = x := by
  simp [IntKind.wrap, IntKind.signed, IntKind.bits]; omega
theorem wu8 {x : Int} (h0 : 0 ≤ x) (h1 : x < 256) : IntKind.u8.wrap x = x := by
  simp [IntKind.wrap, IntKind.signed, IntKind.bits]; omega
theorem wu64 {x : Int} (h0 : 0 ≤ x) (h1 : x < 18446744073709551616) : IntKind.u64.wrap x = x := by
  simp [IntKind.wrap, IntKind.signed, IntKind.bits]; omega

theorem wrap_nat {k : IntKind} {a : Nat} (h : (a : Int) ≤ k.max) : k.wrap (a : Int) = (a : Int) := by
  cases k <;> simp [IntKind.wrap, IntKind.signed, IntKind.bits, IntKind.max] at h ⊢ <;> omega
theorem ofInt_nat (n a : Nat) : BitVec.ofInt n (a : Int) = BitVec.ofNat n a := by simp
theorem and_nat {k : IntKind} {a b : Nat} (ha : (a : Int) ≤ k.max) (hb : (b : Int) ≤ k.max) : bits .and k a b = ((a &&& b : Nat) : Int) := by
  have hla : a < 2 ^ k.bits := by cases k <;> simp [IntKind.max, IntKind.signed, IntKind.bits] at ha ⊢ <;> omega
  have hlb : b < 2 ^ k.bits := by cases k <;> simp [IntKind.max, IntKind.signed, IntKind.bits] at hb ⊢ <;> omega
  unfold bits
  simp only [ofInt_nat]
  have e : (BitVec.ofNat k.bits a &&& BitVec.ofNat k.bits b).toNat = a &&& b := by
    rw [BitVec.toNat_and, BitVec.toNat_ofNat, BitVec.toNat_ofNat, Nat.mod_eq_of_lt hla, Nat.mod_eq_of_lt hlb]
  rw [e]
  refine wrap_nat ?_
  have : a &&& b ≤ a := Nat.and_le_left
  omega
theorem and_mask {k : IntKind} {x : Int} (m : Nat) (h0 : 0 ≤ x) (h1 : x ≤ k.max) (hm : ((2 ^ m - 1 : Nat) : Int) ≤ k.max) : bits .and k x ((2 ^ m - 1 : Nat) : Int) = x % (2 ^ m : Nat) := by
  obtain ⟨n, rfl⟩ := Int.eq_ofNat_of_zero_le h0
  rw [and_nat h1 hm, Nat.and_two_pow_sub_one_eq_mod]
  simp
end Go.Proofs.YtofhbonnojooeaaGreat

