/-
  A region whose order the tape draws, where all that touches memory stands in one line: it is walked in the text's order.
-/
import Derived.Test.YtahcaplhdgphcaaGreatRw
namespace Go.Proofs.RV
open Go Go.RowKit
set_option linter.unusedSimpArgs false
set_option linter.unusedVariables false

section
variable {P : Program} {B : Nat} {ops : Array Oper} {w0 : World}
theorem Ends.mono {r : Result Next} {K K' : Value → World → Prop} (h : Ends P r K) (hk : ∀ v w, K v w → K' v w) : Ends P r K' := by
  unfold Ends at *
  split at h
  · exact hk _ _ h
  · exact hk _ _ h
  · exact h.mono fun en w'' ⟨v, he, h1⟩ => ⟨v, he, hk _ _ h1⟩
  · exact h.elim
theorem Ends.exists {r : Result Next} {K : Value → World → Prop} (h : Ends P r K) : ∃ v w', K v w' := by
  unfold Ends at h
  split at h
  · exact ⟨_, _, h⟩
  · exact ⟨_, _, h⟩
  · obtain ⟨en, w', v, _, hk⟩ := calls_exists h
    exact ⟨v, w', hk⟩
  · exact h.elim
/-- one operation: f tells whether it touches memory -/
def stepS (P : Program) (B : Nat) (ops : Array Oper) (w0 : World) (f : Bool) (o : Oper) (e : Env) (w : World) (N : Env → World → Prop) : Prop :=
  if wants o.guard ops e = true then
    (if f = true then Ends P ((execOp (ev e) o).run P w) (fun v w' => Below B w0 w' ∧ N (upO e o.dst v) w') else ∃ v, Val P B o (ev e) w0 v ∧ N (upO e o.dst v) w)
  else N (upO e o.dst undef) w
theorem stepS_mono {f : Bool} {o : Oper} {e : Env} {w : World} {N N' : Env → World → Prop} (h : stepS P B ops w0 f o e w N) (hN : ∀ e w, N e w → N' e w) : stepS P B ops w0 f o e w N' := by
  unfold stepS at *
  split at h
  · rename_i hw
    rw [if_pos hw]
    split at h
    · rename_i hf
      rw [if_pos hf]
      exact h.mono fun v w' ⟨h1, h2⟩ => ⟨h1, hN _ _ h2⟩
    · rename_i hf
      rw [if_neg hf]
      obtain ⟨v, h1, h2⟩ := h
      exact ⟨v, h1, hN _ _ h2⟩
  · rename_i hw
    rw [if_neg hw]
    exact hN _ _ h
def sqS (P : Program) (B : Nat) (ops : Array Oper) (w0 : World) : List (Bool × Nat × Oper) → Env → World → (Env → World → Prop) → Prop
  | [], e, w, K => K e w
  | (f, _, o) :: r, e, w, K => stepS P B ops w0 f o e w fun e w => sqS P B ops w0 r e w K
theorem sqS_cons (f : Bool) (k : Nat) (o : Oper) (r : List (Bool × Nat × Oper)) (e : Env) (w : World) (K : Env → World → Prop) : sqS P B ops w0 ((f, k, o) :: r) e w K = stepS P B ops w0 f o e w fun e w => sqS P B ops w0 r e w K := rfl
/-- neither sees what the other one writes -/
structure Indep (ops : Array Oper) (o q : Oper) : Prop where
  ro : ∀ s ∈ slotsOf o ++ guardSlot ops o, q.dst ≠ some s
  rq : ∀ s ∈ slotsOf q ++ guardSlot ops q, o.dst ≠ some s
  dd : ∀ s, o.dst = some s → q.dst ≠ some s
  so : isSelect o.op = false
  sq : isSelect q.op = false
theorem upO_ne {e : Env} {d : Option Nat} {v : Value} {s : Nat} (h : d ≠ some s) : upO e d v s = e s := by
  cases d with
  | none => rfl
  | some t =>
    simp only [upO, up]
    rw [if_neg (fun hh => h (by rw [hh]))]
theorem upO_comm {e : Env} {d d' : Option Nat} {v v' : Value} (h : ∀ s, d = some s → d' ≠ some s) : upO (upO e d v) d' v' = upO (upO e d' v') d v := by
  funext s
  by_cases h1 : d = some s
  · have h2 := h s h1
    rw [upO_ne h2]
    subst h1
    simp [upO, up]
  · rw [upO_ne h1]
    by_cases h2 : d' = some s
    · subst h2
      simp [upO, up]
    · rw [upO_ne h2, upO_ne h2, upO_ne h1]
theorem Indep.symm {o q : Oper} (h : Indep ops o q) : Indep ops q o := ⟨h.rq, h.ro, fun s h1 h2 => h.dd s h2 h1, h.sq, h.so⟩
theorem Indep.exec {o q : Oper} (h : Indep ops o q) (e : Env) (v : Value) : execOp (ev (upO e q.dst v)) o = execOp (ev e) o :=
  execOp_congr h.so (ev_congr (ops := ops) fun s hs => upO_ne (h.ro s hs))
theorem Indep.wants {o q : Oper} (h : Indep ops o q) (e : Env) (v : Value) : wants o.guard ops (upO e q.dst v) = wants o.guard ops e :=
  wants_of fun s hs => upO_ne (h.ro s hs)
theorem Indep.val {o q : Oper} (h : Indep ops o q) (e : Env) (v u : Value) : Val P B o (ev (upO e q.dst v)) w0 u ↔ Val P B o (ev e) w0 u := by
  unfold Val
  rw [h.exec e v]
theorem swap {o q : Oper} (h : Indep ops o q) {f g : Bool} (hfg : ¬ (f = true ∧ g = true)) {e : Env} {w : World} {N : Env → World → Prop}
    (hs : stepS P B ops w0 g q e w fun e w => stepS P B ops w0 f o e w N) : stepS P B ops w0 f o e w fun e w => stepS P B ops w0 g q e w N := by
  have h' := h.symm
  have comm : ∀ a b, upO (upO e q.dst a) o.dst b = upO (upO e o.dst b) q.dst a := fun a b => upO_comm h'.dd
  unfold stepS at *
  simp only [h.wants, h'.wants, h.exec, h'.exec, h.val, h'.val] at *
  by_cases wq : wants q.guard ops e = true
  · simp only [wq, if_true] at *
    by_cases wo : wants o.guard ops e = true
    · simp only [wo, if_true] at *
      cases g with
      | true =>
        cases f with
        | true => exact absurd ⟨rfl, rfl⟩ hfg
        | false =>
          simp only [if_true, Bool.false_eq_true, if_false] at *
          obtain ⟨_, _, _, vo, hvo, _⟩ := hs.exists
          refine ⟨vo, hvo, hs.mono ?_⟩
          rintro v w' ⟨h1, vo', hvo', h2⟩
          rw [val_unique hvo hvo', ← comm]
          exact ⟨h1, h2⟩
      | false =>
        cases f with
        | true =>
          simp only [if_true, Bool.false_eq_true, if_false] at *
          obtain ⟨vq, hvq, h2⟩ := hs
          refine h2.mono ?_
          rintro v w' ⟨h3, h4⟩
          refine ⟨h3, vq, hvq, ?_⟩
          rw [← comm]
          exact h4
        | false =>
          simp only [Bool.false_eq_true, if_false] at *
          obtain ⟨vq, hvq, vo, hvo, h2⟩ := hs
          refine ⟨vo, hvo, vq, hvq, ?_⟩
          rw [← comm]
          exact h2
    · simp only [wo, Bool.false_eq_true, if_false] at *
      cases g with
      | true =>
        simp only [if_true] at *
        refine hs.mono ?_
        rintro v w' ⟨h1, h2⟩
        rw [← comm]
        exact ⟨h1, h2⟩
      | false =>
        simp only [Bool.false_eq_true, if_false] at *
        obtain ⟨vq, hvq, h2⟩ := hs
        refine ⟨vq, hvq, ?_⟩
        rw [← comm]
        exact h2
  · simp only [wq, Bool.false_eq_true, if_false] at *
    by_cases wo : wants o.guard ops e = true
    · simp only [wo, if_true] at *
      cases f with
      | true =>
        simp only [if_true] at *
        refine hs.mono ?_
        rintro v w' ⟨h1, h2⟩
        rw [← comm]
        exact ⟨h1, h2⟩
      | false =>
        simp only [Bool.false_eq_true, if_false] at *
        obtain ⟨vo, hvo, h2⟩ := hs
        refine ⟨vo, hvo, ?_⟩
        rw [← comm]
        exact h2
    · simp only [wo, Bool.false_eq_true, if_false] at *
      rw [← comm]
      exact hs
theorem front {f : Bool} {i : Nat} {o : Oper} {post : List (Bool × Nat × Oper)} {K : Env → World → Prop} : ∀ (pre : List (Bool × Nat × Oper)), (∀ x ∈ pre, Indep ops o x.2.2 ∧ ¬ (f = true ∧ x.1 = true)) → ∀ (e : Env) (w : World),
    sqS P B ops w0 (pre ++ (f, i, o) :: post) e w K → sqS P B ops w0 ((f, i, o) :: (pre ++ post)) e w K
  | [], _, e, w, hs => hs
  | (g, j, q) :: pre, h, e, w, hs => by
    have h0 := h (g, j, q) (List.mem_cons_self ..)
    have hs' : stepS P B ops w0 g q e w fun e w => stepS P B ops w0 f o e w fun e w => sqS P B ops w0 (pre ++ post) e w K :=
      stepS_mono (N := fun e w => sqS P B ops w0 (pre ++ (f, i, o) :: post) e w K) hs fun e w hh => front pre (fun x hx => h x (List.mem_cons_of_mem _ hx)) e w hh
    exact swap h0.1 h0.2 hs'
/-- those that have not run yet, in the text's order -/
def rems (F : List Bool) (listed : Array Bool) (l : List (Oper × Nat)) : List (Bool × Nat × Oper) := (l.filter fun x => !listed.getD x.2 false).map fun x => (F.getD x.2 false, x.2, x.1)
def okF (D : List (List Nat)) (F : List Bool) : Bool := (List.range F.length).all fun j => !(F.getD j false) || (List.range j).all fun i => !(F.getD i false) || (D.getD j []).contains i
theorem okF_spec {D : List (List Nat)} {F : List Bool} (h : okF D F = true) {i j : Nat} (hi : F.getD i false = true) (hj : F.getD j false = true) (hij : i < j) : i ∈ D.getD j [] := by
  unfold okF at h
  rw [List.all_eq_true] at h
  have hjl : j < F.length := by
    rcases Nat.lt_or_ge j F.length with h1 | h1
    · exact h1
    · rw [List.getD_eq_getElem?_getD, List.getElem?_eq_none h1] at hj; cases hj
  have h1 := h j (List.mem_range.2 hjl)
  rw [hj] at h1
  simp only [Bool.not_true, Bool.false_or, List.all_eq_true] at h1
  have h2 := h1 i (List.mem_range.2 hij)
  rw [hi] at h2
  simpa using h2
theorem rems_listed {F : List Bool} {listed : Array Bool} {i : Nat} (hi : i < listed.size) : ∀ l : List (Oper × Nat), (∀ x ∈ l, x.2 ≠ i) → rems F (listed.setIfInBounds i true) l = rems F listed l := by
  intro l hl
  unfold rems
  congr 1
  refine List.filter_congr fun x hx => ?_
  rw [set_get hi, if_neg (hl x hx)]
variable {D : List (List Nat)}
theorem any_seq (hD : OkD ops D) {F : List Bool} (hF : okF D F = true) {n : Nat} {K : Env → World → Prop} {Q : Exit → Act → World → Prop} (hn : ∀ o ∈ ops, ∀ t, o.dst = some t → t < n) (hQ : ∀ a e w, Rep n a e → K e w → Q .normal a w) :
    ∀ (fuel : Nat) (listed : Array Bool) (a : Act) (e : Env) (w : World), listed.size = ops.size → Rep n a e → (∀ (i : Nat) (o : Oper), ops[i]? = some o → listed.getD i false = true → ∀ x ∈ D.getD i [], listed.getD x false = true) → Below B w0 w →
      sqS P B ops w0 (rems F listed ops.toList.zipIdx) e w K → ((List.range ops.size).filter fun j => !listed.getD j false).length ≤ fuel → wpAny P .any ops Q fuel listed a w := by
  intro fuel
  induction fuel with
  | zero =>
    intro listed a e w hsz hr hsh hb hs hf
    have hall : ∀ j, j < ops.size → listed.getD j false = true := by
      intro j hj
      cases h : listed.getD j false with
      | true => rfl
      | false =>
        have : j ∈ (List.range ops.size).filter fun j => !listed.getD j false := List.mem_filter.2 ⟨List.mem_range.2 hj, by rw [h]; rfl⟩
        rw [List.eq_nil_of_length_eq_zero (Nat.le_zero.1 hf)] at this
        cases this
    have hrem : rems F listed ops.toList.zipIdx = [] := by
      unfold rems
      rw [List.filter_eq_nil_iff.2 fun x hx => ?_, List.map_nil]
      have := List.mem_zipIdx hx
      rw [hall x.2 (by simp at this; omega)]
      simp
    rw [hrem] at hs
    refine ⟨?_, hQ _ _ _ hr hs⟩
    refine List.eq_nil_iff_forall_not_mem.2 fun j hj => ?_
    obtain ⟨h1, o, ho, _⟩ := mem_ready.1 hj
    have hj' := (Array.getElem?_eq_some_iff.1 ho).1
    have h2 := hall j hj'
    simp only [Array.getD_eq_getD_getElem?, Array.getElem?_eq_getElem (hsz ▸ hj'), Option.getD_some] at h1 h2
    rw [h1] at h2
    cases h2
  | succ fuel ih =>
    intro listed a e w hsz hr hsh hb hs hf
    have same : ∀ j, j < ops.size → listed.getD j true = listed.getD j false := fun j hj => by
      simp [Array.getD_eq_getD_getElem?, Array.getElem?_eq_getElem (hsz ▸ hj)]
    refine ⟨fun hnil => ?_, fun i hi => ?_⟩
    · have key : ∀ m j (q : Oper), j ≤ m → ops[j]? = some q → listed.getD j false = true := by
        intro m
        induction m with
        | zero =>
          intro j q hj hq
          obtain rfl : j = 0 := by omega
          cases h : listed.getD 0 false with
          | true => rfl
          | false =>
            have : 0 ∈ Region.ready .any ops listed := mem_ready.2 ⟨by rw [same 0 (Array.getElem?_eq_some_iff.1 hq).1]; exact h, q, hq, fun ed hed hb => absurd (hD.lt 0 q hq ed.on (hD.bind 0 q hq ed.on (List.mem_filterMap.2 ⟨ed, by simpa using hed, by rw [if_pos hb]⟩))) (Nat.not_lt_zero _)⟩
            rw [hnil] at this
            cases this
        | succ m ihm =>
          intro j q hj hq
          by_cases hjm : j ≤ m
          · exact ihm j q hjm hq
          · cases h : listed.getD j false with
            | true => rfl
            | false =>
              have : j ∈ Region.ready .any ops listed := mem_ready.2 ⟨by rw [same j (Array.getElem?_eq_some_iff.1 hq).1]; exact h, q, hq, fun ed hed hb => by
                have h1 := hD.bind j q hq ed.on (List.mem_filterMap.2 ⟨ed, by simpa using hed, by rw [if_pos hb]⟩)
                have h2 := hD.lt j q hq ed.on h1
                have h3 := (Array.getElem?_eq_some_iff.1 hq).1
                exact ihm ed.on _ (by omega) (Array.getElem?_eq_getElem (show ed.on < ops.size by omega))⟩
              rw [hnil] at this
              cases this
      have hrem : rems F listed ops.toList.zipIdx = [] := by
        unfold rems
        rw [List.filter_eq_nil_iff.2 fun x hx => ?_, List.map_nil]
        have hx2 := List.mem_zipIdx hx
        have hlt : x.2 < ops.size := by simp at hx2; omega
        rw [key x.2 x.2 _ (Nat.le_refl _) (Array.getElem?_eq_getElem hlt)]
        simp
      rw [hrem] at hs
      exact hQ _ _ _ hr hs
    · obtain ⟨h1, o, ho, h2⟩ := mem_ready.1 hi
      have hi' := (Array.getElem?_eq_some_iff.1 ho).1
      have hLi : listed.getD i false = false := (same i hi').symm.trans h1
      have hdone : ∀ x ∈ D.getD i [], listed.getD x false = true := by
        have hb : ∀ x ∈ binding o, listed.getD x false = true := by
          intro x hx
          obtain ⟨ed, hed, hh⟩ := List.mem_filterMap.1 hx
          by_cases hb : Region.binds .any ed = true
          · rw [if_pos hb] at hh
            injection hh with hh
            subst hh
            exact h2 ed (by simpa using hed) hb
          · rw [if_neg hb] at hh
            cases hh
        intro x hx
        rcases hD.dep i o ho x hx with h3 | ⟨j, hj, hxj⟩
        · exact hb x h3
        · have hjs : j < ops.size := by
            have := hD.lt i o ho j (hD.bind i o ho j hj)
            omega
          exact hsh j _ (Array.getElem?_eq_getElem hjs) (hb j hj) x hxj
      -- the list, parted at i
      have hsplit : ops.toList.zipIdx = ops.toList.zipIdx.take i ++ (o, i) :: ops.toList.zipIdx.drop (i + 1) := by
        have hg : ops.toList.zipIdx[i]? = some (o, i) := by
          rw [List.getElem?_zipIdx]
          simp [ho]
        have hlt := (List.getElem?_eq_some_iff.1 hg).1
        conv => lhs; rw [← List.take_append_drop i ops.toList.zipIdx]
        rw [List.drop_eq_getElem_cons hlt]
        rw [(List.getElem?_eq_some_iff.1 hg).2]
      have hpre : ∀ x ∈ ops.toList.zipIdx.take i, x.2 < i ∧ ops[x.2]? = some x.1 := by
        intro x hx
        obtain ⟨k, hk⟩ := List.getElem?_of_mem hx
        rw [List.getElem?_take] at hk
        split at hk
        · rename_i hki
          rw [List.getElem?_zipIdx] at hk
          simp only [Option.map_eq_some_iff] at hk
          obtain ⟨y, hy, rfl⟩ := hk
          simp only [Nat.zero_add]
          exact ⟨hki, by simpa using hy⟩
        · cases hk
      have hpost : ∀ x ∈ ops.toList.zipIdx.drop (i + 1), x.2 ≠ i := by
        intro x hx
        obtain ⟨k, hk⟩ := List.getElem?_of_mem hx
        rw [List.getElem?_drop, List.getElem?_zipIdx] at hk
        simp only [Option.map_eq_some_iff] at hk
        obtain ⟨y, hy, rfl⟩ := hk
        simp only
        omega
      have hr1 : rems F listed ops.toList.zipIdx = rems F listed (ops.toList.zipIdx.take i) ++ (F.getD i false, i, o) :: rems F listed (ops.toList.zipIdx.drop (i + 1)) := by
        conv => lhs; rw [hsplit]
        unfold rems
        rw [List.filter_append, List.map_append, List.filter_cons_of_pos (by simp only [hLi]; rfl), List.map_cons]
      have hr2 : rems F (listed.setIfInBounds i true) ops.toList.zipIdx = rems F listed (ops.toList.zipIdx.take i) ++ rems F listed (ops.toList.zipIdx.drop (i + 1)) := by
        conv => lhs; rw [hsplit]
        rw [← rems_listed (F := F) (hsz ▸ hi') (ops.toList.zipIdx.take i) (fun x hx => by have := (hpre x hx).1; omega), ← rems_listed (F := F) (hsz ▸ hi') (ops.toList.zipIdx.drop (i + 1)) hpost]
        unfold rems
        rw [List.filter_append, List.map_append, List.filter_cons_of_neg (by simp only [set_get (hsz ▸ hi')]; simp)]
      rw [hr1] at hs
      have hs2 := front (rems F listed (ops.toList.zipIdx.take i)) (fun x hx => by
        unfold rems at hx
        obtain ⟨y, hy, rfl⟩ := List.mem_map.1 hx
        obtain ⟨hy1, hy2⟩ := List.mem_filter.1 hy
        obtain ⟨hlt, hq⟩ := hpre y hy1
        have hyl : listed.getD y.2 false = false := by simpa using hy2
        have hnd : y.2 ∉ D.getD i [] := fun hh => by rw [hdone _ hh] at hyl; cases hyl
        have hnd2 : i ∉ D.getD y.2 [] := fun hh => by have := hD.lt y.2 _ hq i hh; omega
        refine ⟨⟨fun s hs hd => ?_, fun s hs hd => ?_, fun s hd => hD.dst i o y.2 _ ho hq (by omega) s hd, hD.sel i o ho, hD.sel y.2 _ hq⟩, fun hff => ?_⟩
        · rcases hD.read i o ho s hs y.2 _ hq hd with h5 | h5
          · exact hnd h5
          · exact hnd2 h5
        · rcases hD.read y.2 _ hq s hs i o ho hd with h5 | h5
          · exact hnd2 h5
          · exact hnd h5
        · exact hnd (okF_spec hF hff.2 hff.1 hlt)) e w hs
      rw [sqS_cons] at hs2
      rw [← hr2] at hs2
      have hlen : ((List.range ops.size).filter fun j => !(listed.setIfInBounds i true).getD j false).length ≤ fuel := by
        have hsub : ((List.range ops.size).filter fun j => !(listed.setIfInBounds i true).getD j false) = ((List.range ops.size).filter fun j => !listed.getD j false).filter (fun j => !(j == i)) := by
          rw [List.filter_filter]
          apply List.filter_congr
          intro j _
          rw [set_get (hsz ▸ hi')]
          by_cases hji : j = i
          · simp [hji]
          · simp [hji]
        have hmem : i ∈ (List.range ops.size).filter fun j => !listed.getD j false := List.mem_filter.2 ⟨List.mem_range.2 hi', by rw [hLi]; rfl⟩
        rw [hsub]
        have : (((List.range ops.size).filter fun j => !listed.getD j false).filter fun j => !(j == i)).length < ((List.range ops.size).filter fun j => !listed.getD j false).length := by
          refine List.length_filter_lt_length_iff_exists.2 ⟨i, hmem, by simp⟩
        omega
      have hsh' : ∀ (j : Nat) (q : Oper), ops[j]? = some q → (listed.setIfInBounds i true).getD j false = true → ∀ x ∈ D.getD j [], (listed.setIfInBounds i true).getD x false = true := by
        intro j q hq hj x hx
        rw [set_get (hsz ▸ hi')] at hj ⊢
        split
        · rfl
        · split at hj
          · rename_i hji
            subst hji
            exact hdone x hx
          · exact hsh j q hq hj x hx
      have hnd := hn o (by rw [Array.mem_iff_getElem?]; exact ⟨i, ho⟩)
      have next : ∀ v w', Below B w0 w' → sqS P B ops w0 (rems F (listed.setIfInBounds i true) ops.toList.zipIdx) (upO e o.dst v) w' K → wpAny P .any ops Q fuel (listed.setIfInBounds i true) (a.put o.dst v) w' :=
        fun v w' hb' hh => ih _ _ _ _ (by simpa using hsz) (hr.put _ hnd v) hsh' hb' hh hlen
      unfold wpOp
      simp only [ho]
      rw [wanted_eq hr]
      unfold stepS at hs2
      by_cases hw : wants o.guard ops e = true
      · rw [if_pos hw] at hs2 ⊢
        refine .inl ?_
        by_cases hff : F.getD i false = true
        · rw [if_pos hff] at hs2
          exact op_wp hr hs2 fun v w' ⟨h3, h4⟩ => next v w' h3 h4
        · rw [if_neg hff] at hs2
          obtain ⟨v, hval, h4⟩ := hs2
          refine op_wp (K := fun u w' => u = v ∧ w' = w) hr ?_ ?_
          · rw [hval w hb]
            exact ⟨rfl, rfl⟩
          · rintro u w' ⟨rfl, rfl⟩
            exact next u w' hb h4
      · rw [if_neg hw] at hs2 ⊢
        exact next undef w hb hs2
end
/-- the same, computed -/
def sqP (P : Program) (B : Nat) (ops : Array Oper) (w0 : World) : List Oper → List Bool → Env → World → (Env → World → Prop) → Prop
  | [], _, e, w, K => K e w
  | o :: r, fs, e, w, K => guardP o.guard ops e
      (fun e => match fs.headD false with
        | true => opP P o e w fun v w' => Below B w0 w' ∧ sqP P B ops w0 r fs.tail (upO e o.dst v) w' K
        | false => opV P B o e w0 fun v => sqP P B ops w0 r fs.tail (upO e o.dst v) w K)
      (fun e => sqP P B ops w0 r fs.tail (upO e o.dst undef) w K)
theorem sq_sound {P : Program} {B : Nat} {ops : Array Oper} {w0 : World} {K : Env → World → Prop} {F : List Bool} : ∀ (l : List Oper) (k : Nat) (fs : List Bool) (e : Env) (w : World), (∀ j, fs.getD j false = F.getD (k + j) false) → sqP P B ops w0 l fs e w K →
    sqS P B ops w0 ((l.zipIdx k).map fun x => (F.getD x.2 false, x.2, x.1)) e w K
  | [], k, fs, e, w, hfs, h => h
  | o :: r, k, fs, e, w, hfs, h => by
    have h0 : fs.headD false = F.getD k false := by
      have := hfs 0
      rw [Nat.add_zero] at this
      rw [← this]
      cases fs <;> rfl
    have ht : ∀ j, fs.tail.getD j false = F.getD (k + 1 + j) false := fun j => by
      have := hfs (j + 1)
      rw [show k + (j + 1) = k + 1 + j by omega] at this
      rw [← this]
      cases fs <;> simp
    unfold sqP at h
    rw [guard_ite] at h
    rw [List.zipIdx_cons, List.map_cons, sqS_cons]
    unfold stepS
    by_cases hw : wants o.guard ops e = true
    · rw [if_pos hw] at h ⊢
      rw [h0] at h
      cases hf : F.getD k false with
      | true =>
        rw [hf] at h
        simp only [if_true]
        exact (op_sound h).mono fun v w' ⟨h1, h2⟩ => ⟨h1, sq_sound r (k + 1) fs.tail _ _ ht h2⟩
      | false =>
        rw [hf] at h
        simp only [Bool.false_eq_true, if_false]
        obtain ⟨v, h1, h2⟩ := opV_sound h
        exact ⟨v, h1, sq_sound r (k + 1) fs.tail _ _ ht h2⟩
    · rw [if_neg hw] at h ⊢
      exact sq_sound r (k + 1) fs.tail _ _ ht h
theorem draw_seq {P : Program} {id : Nat} {l : List Oper} {e0 : Env} {w0 : World} {K : Env → World → Prop} (B : Nat) (F : List Bool) (D : List (List Nat)) (hm : P.follows .mixedOrders = true) (hD : okD l.toArray D = true) (hF : okF D F = true)
    (hv : ∀ w1, More w0 w1 → sqP P B l.toArray w0 l F e0 w1 (Stop K .mk)) : drawP P id l.toArray e0 w0 K := by
  intro n a hd hr
  refine wp_region_any hm ?_
  refine any_seq (B := B) (w0 := w0) (okD_spec hD) hF hd (fun a e w hr hk => ⟨e, hr, rfl, hk⟩) l.toArray.size _ a e0 _ (by simp) hr ?_ (below_drawn _ _) ?_ ?_
  · intro i o ho hi
    simp [Array.getD_eq_getD_getElem?, Array.getElem?_replicate] at hi
    split at hi <;> simp at hi
  · have h1 := sq_sound (F := F) l 0 F e0 _ (fun j => by rw [Nat.zero_add]) (hv _ (below_drawn _ _))
    have h2 : rems F (Array.replicate l.toArray.size false) l.toArray.toList.zipIdx = (l.zipIdx 0).map fun x => (F.getD x.2 false, x.2, x.1) := by
      unfold rems
      rw [List.filter_eq_self.2 fun x _ => ?_]
      simp [Array.getD_eq_getD_getElem?, Array.getElem?_replicate]
      split <;> rfl
    rw [h2]
    exact h1
  · exact Nat.le_trans (List.length_filter_le _ _) (by simp)
/-! ### The rules by which it unfolds -/
def sqI (f : Bool) (P : Program) (B : Nat) (w0 : World) (o : Oper) (e : Env) (w : World) (N : Value → World → Prop) (_ : Mark N) : Prop :=
  match f with
  | true => opP P o e w fun v w' => Below B w0 w' ∧ N v w'
  | false => opV P B o e w0 fun v => N v w
section
variable (P : Program) (B : Nat) (ops : Array Oper) (w0 : World) (e : Env) (w : World) (K : Env → World → Prop)
theorem sq_nil (fs : List Bool) (m : Mark K) : sqP P B ops w0 [] fs e w (Stop K m) = K e w := propext Iff.rfl
theorem sq_cons (d : Option Nat) (op : Op) (t : TypeId) (p : String) (af : Array Edge) (r : List Oper) (f : Bool) (fs : List Bool) :
    sqP P B ops w0 (⟨d, op, t, p, af, none⟩ :: r) (f :: fs) e w K = sqI f P B w0 ⟨d, op, t, p, af, none⟩ e w (fun v w' => sqP P B ops w0 r fs (upO e d v) w' K) .mk := by
  conv => lhs; unfold sqP
  cases f <;> rfl
theorem sq_guard (d : Option Nat) (op : Op) (t : TypeId) (p : String) (af : Array Edge) (g : Nat × Bool) (r : List Oper) (f : Bool) (fs : List Bool) :
    sqP P B ops w0 (⟨d, op, t, p, af, some g⟩ :: r) (f :: fs) e w K = guardP (some g) ops e (Stop (fun e => sqI f P B w0 ⟨d, op, t, p, af, none⟩ e w (fun v w' => sqP P B ops w0 r fs (upO e d v) w' K) .mk) .mk) (Stop (fun e => sqP P B ops w0 r fs (upO e d undef) w K) .mk) := by
  conv => lhs; unfold sqP
  cases f <;> rfl
theorem sq_true (o : Oper) (N : Value → World → Prop) (m : Mark N) : sqI true P B w0 o e w N m = opP P o e w (Stop (fun v w' => Below B w0 w' ∧ N v w') .mk) := propext Iff.rfl
theorem sq_false (o : Oper) (N : Value → World → Prop) (m : Mark N) : sqI false P B w0 o e w N m = opV P B o e w0 (Stop (fun v => N v w) .mk) := propext Iff.rfl
end
/-- bytes that lie below B -/
theorem bs_below {B : Nat} {w w' : World} {A : Option Addr} {l : List UInt8} (hA : Bs w A l) (hb : Below B w w') (hB : ∀ a, A = some a → 0 < l.length → a.block < B) : Bs w' A l := by
  intro i v hi
  have hl : 0 < l.length := by
    cases l with
    | nil => simp at hi
    | cons => exact Nat.succ_pos _
  obtain ⟨a, ha, hc⟩ := hA i v hi
  refine ⟨a, ha, ?_⟩
  rw [← hc]
  exact World.cell?_of_block (hb.block _ (by rw [add_block]; exact hB a ha hl))
theorem readstr_lt {P : Program} {B : Nat} {S D e : TypeId} (hs : P.underlying S = some (.slice e)) (he : P.underlying e = some (.int .u8)) (hd : P.underlying D = some .string) {w : World} {A : Option Addr} {l : List UInt8} (hA : Bs w A l) (c : Nat) (hB : ∀ a, A = some a → 0 < l.length → a.block < B) (K : Value → Prop) :
    readP P B (convert S D (.slice A l.length c)) w K = K (.string (bstr l)) :=
  propext ⟨fun ⟨v, h1, h2⟩ => by
    have h3 := h1 w (Below.refl _ _)
    rw [run_bytes_str hs he hd hA] at h3
    injection h3 with h3
    subst h3
    exact h2, fun hk => ⟨_, fun w' hb => run_bytes_str hs he hd (bs_below hA hb hB), hk⟩⟩
theorem Cs.below_of {w : World} {A : Option Addr} {l : List UInt8} (hA : Bs w A l) : ∀ a, A = some a → 0 < l.length → a.block < w.heap.size := by
  intro a ha hl
  subst ha
  exact hA.blk_lt hl
/-! ### Draws counted -/
/-- all that there is stays as it is, and no draw is taken back -/
def MoreD (a b : World) : Prop := More a b ∧ a.drawn ≤ b.drawn
theorem MoreD.refl (a : World) : MoreD a a := ⟨More.refl a, Nat.le_refl _⟩
theorem MoreD.trans {a b c : World} (h : MoreD a b) (k : MoreD b c) : MoreD a c := ⟨h.1.trans k.1, Nat.le_trans h.2 k.2⟩
theorem MoreD.alloc (w : World) (o : Obj) : MoreD w (w.alloc o) := ⟨more_alloc w o, Nat.le_refl _⟩
/-- 'append(v, x...)' where v has no room left -/
theorem app_fullD {P : Program} {t ty e : TypeId} {z : Value} {bytes n m c2 : Nat} {a : Addr} {A2 : Option Addr} {xs news : List Value} {w : World} {K : Value → World → Prop} (ht : P.underlying t = some (.slice e)) (hE : ElemT P e z 1 bytes) (hzs : z.cells.size = 1)
    (hxs : Cs w (some a) xs) (hxl : xs.length = n) (ha : a.spot = none) (hsrc : Cs w A2 news) (hl : news.length = m) (h1 : ∀ u ∈ news, u.oneCell' = true) (h63 : n + m ≤ maxLen) (hbytes : (n + m) * bytes ≤ 140737488355328)
    (hK0 : m = 0 → K (.slice (some a) (n + m) n) w)
    (hK : ∀ c' w', 0 < m → Own w' w.heap.size e 1 (some ⟨w.heap.size, 0, none⟩) (n + m) c' (xs ++ news) → More w w' → w.drawn ≤ w'.drawn → K (.slice (some ⟨w.heap.size, 0, none⟩) (n + m) c') w') :
    runP P (Builtin.append_ #[t, t] ty #[.slice (some a) n n, .slice A2 m c2]) w K := by
  obtain ⟨i, hi, hz, hs, hby⟩ := info_parts hE
  have zero : m = 0 → runP P (Builtin.append_ #[t, t] ty #[.slice (some a) n n, .slice A2 m c2]) w K := by
    intro hm
    have hk := hK0 hm
    subst hm
    have hn : news = [] := List.eq_nil_of_length_eq_zero hl
    subst hn
    refine ⟨_, w, ?_, hk⟩
    obtain ⟨ab, ao, as⟩ := a
    simp only at ha
    subst ha
    cases A2 with
    | none => simp [Builtin.append_, run_underlying ht, sizeOf, typeInfo, hi, Builtin.lenOf, Builtin.firstCells, storeCells]
    | some ad =>
      have := run_append_room_cells (P := P) (w := w) t ty e i ht hi ab ao n n ad 0 c2 [] (by simp) (by simp) (by simp) (by omega) (by simp) (by simp)
      rw [this]
      rfl
  rcases Nat.eq_zero_or_pos m with hm | hm
  · exact zero hm
  · rcases A2 with _ | ad
    · cases news with
      | nil => simp at hl; omega
      | cons u r =>
        obtain ⟨x, hx, _⟩ := hsrc 0 u rfl
        cases hx
    · have holds : ∀ j u, xs[j]? = some u → w.cell? (a.add j) = some u := by
        intro j u hu
        obtain ⟨x, hx, hc⟩ := hxs j u hu
        cases hx
        exact hc
      have hnews : ∀ (j : Nat) (u : Value), news[j]? = some u → w.cell? (ad.add j) = some u := by
        intro j u hu
        obtain ⟨x, hx, hc⟩ := hsrc j u hu
        cases hx
        exact hc
      have hr := run_append_grow (P := P) w t ty e i z ht hi hz a n n xs (by rw [hs]; omega) holds ad m c2 news (by rw [hs]; omega) hnews (by omega) (by simp only [maxLen] at h63; omega) (growslice_fits (by omega) (by rw [hby]; exact hbytes))
      have hge := grownCap_ge w (n + m) n e
      have hcm : grownCap w (n + m) n e ≤ maxLen := grownCap_le_maxLen w (n + m) n e h63
      refine ⟨_, _, hr, hK _ _ hm ⟨?_, .inr ⟨w.heap.size, _, _, rfl, Nat.le_refl _, heap_alloc_new w.drew _, hge, hcm, ?_, ?_⟩⟩ ⟨rfl, rfl, rfl, by simp, fun k hk => heap_alloc_old w.drew _ (by simpa using hk)⟩ (by simp)⟩
      · rw [List.length_append]; omega
      · simp only [Array.size_append, List.size_toArray, size_zeroCells, hzs]
        omega
      · simp only [Array.toList_append, List.append_assoc]
        rw [← List.append_assoc, show (n + m) * 1 = (xs ++ news).length by rw [List.length_append]; omega]
        exact List.take_left
/-- a drawn region that counts draws -/
theorem draw_seenD {P : Program} {id : Nat} {l : List Oper} {e0 : Env} {w0 : World} {K : Env → World → Prop} (m : Nat) (D : List (List Nat)) (fs : List (Nat × (Value → World → Prop))) (hm : P.follows .mixedOrders = true) (hD : okD l.toArray D = true) (hT : okT l.toArray D m = true)
    (hst : ∀ x ∈ fs, ∀ v a b, MoreD a b → x.2 v a → x.2 v b)
    (hv : vc P w0.heap.size MoreD l.toArray D (look fs) w0 0 (l.take m) e0 [] (Stop (fun e w => opsP P l.toArray (l.drop m) e w K) .mk)) : drawP P id l.toArray e0 w0 K :=
  draw_rg w0.heap.size MoreD D _ hm hD (fun _ _ _ h k => h.trans k) MoreD.refl ⟨below_drawn _ _, Nat.le_succ _⟩ (fun _ h => h.1) (look_all fs hst) m hT (by simpa [Stop] using hv)
theorem keepsVD (u v : Value) (a b : World) (_ : MoreD a b) (h : IsV u v a) : IsV u v b := h
theorem keepsBD (l : List UInt8) (v : Value) (a b : World) (h : MoreD a b) (k : BsF l v a) : BsF l v b := keepsB l v a b h.1 k
end Go.Proofs.RV
