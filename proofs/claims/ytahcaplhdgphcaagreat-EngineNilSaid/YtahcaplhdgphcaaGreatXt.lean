/-
  More of the calculus: long appends, rows that are read, regions in a line under whatever frame, structs of all parts, what came in with how long it is.
-/
import Derived.Test.YtahcaplhdgphcaaGreatBn
import Derived.Deep.DeepAppendWide

/-! ### An append that may be as long as memory is. -/
namespace Go.Proofs.RV
open Go Go.RowKit
set_option linter.unusedSimpArgs false
set_option linter.unusedVariables false
theorem run_app_wide {P : Program} {t ty e : TypeId} {i : TypeInfo} {z : Value} {B n c m c2 : Nat} {A : Option Addr} {ad : Addr} {xs news : List Value} {w : World} (ht : P.underlying t = some (.slice e)) (hi : P.info? e = some i) (hz : i.zero = some z) (hzs : z.cells.size = i.size) (hsz : 0 < i.size)
    (hown : Own w B e i.size A n c xs) (hl : news.length = m * i.size) (hnews : ∀ (j : Nat) (u : Value), news[j]? = some u → w.cell? (ad.add j) = some u) (h1 : ∀ u ∈ news, u.oneCell' = true) (h63 : n + m ≤ maxLen) (hbytes : ((n + m) + (n + m) / 4 + 192) * i.bytes ≤ 281474976710656) (hB : B ≤ w.heap.size) :
    ∃ v' w', (Builtin.append_ #[t, t] ty #[.slice A n c, .slice (some ad) m c2]).run P w = .ok v' w' ∧ w'.ownsRow B e i.size v' (n + m) (xs ++ news) ∧ w.grownBy w' (Value.slice A n c).ownBlock ∧ (v'.ownBlock = (Value.slice A n c).ownBlock ∨ v'.ownBlock = some w.heap.size) := by
  have hlen : (xs ++ news).length = (n + m) * i.size := by rw [List.length_append, hown.1, hl, Nat.add_mul]
  have hmx : n + m ≤ 9223372036854775807 := by simp only [maxLen] at h63; omega
  have made : ∀ old, old < n + m → ∀ row,
      (w.drew.alloc (.cells (xs.toArray ++ news.toArray ++ Builtin.zeroCells z.cells (grownCap w (n + m) old e - (n + m))) e)).ownsRow B e i.size (.slice (some ⟨w.heap.size, 0, none⟩) (n + m) (grownCap w (n + m) old e)) (n + m) (xs ++ news) ∧
      w.grownBy (w.drew.alloc (.cells (xs.toArray ++ news.toArray ++ Builtin.zeroCells z.cells (grownCap w (n + m) old e - (n + m))) e)) row := by
    intro old ho row
    have hge := grownCap_ge w (n + m) old e
    refine ⟨⟨hlen, .inr ⟨w.heap.size, _, _, rfl, hB, heap_alloc_new w.drew _, hge, grownCap_le_maxLen w (n + m) old e h63, ?_, ?_⟩⟩, ⟨rfl, rfl, rfl, by simp, fun k hk _ => heap_alloc_old w.drew _ (by simpa using hk)⟩⟩
    · simp only [Array.size_append, List.size_toArray, size_zeroCells, hzs, hown.1, hl, ← Nat.add_mul]
      congr 1
      omega
    · simp only [Array.toList_append, List.append_assoc]
      rw [← List.append_assoc, ← hlen]
      exact List.take_left
  rcases hown.2 with ⟨hv, rfl⟩ | ⟨g, cap, cur, hv, hbg, hg, hnc, hcm, hcs, htake⟩
  · cases hv
    have hx : xs = [] := List.eq_nil_of_length_eq_zero (by simpa using hown.1)
    subst hx
    by_cases hm : m = 0
    · subst hm
      have hn : news = [] := List.eq_nil_of_length_eq_zero (by simpa using hl)
      subst hn
      refine ⟨.slice none 0 0, w, ?_, hown, World.grownBy.refl w _, .inl rfl⟩
      simp [Builtin.append_, run_underlying ht, sizeOf, typeInfo, hi, Builtin.lenOf, Builtin.firstCells, loadCells, loadCellsFrom]
    · have hr := run_append_nil (P := P) w t ty e i z ht hi hz ad m c2 news hl hnews (by omega) (by omega) (by simp only [Nat.zero_add] at hbytes; exact Nat.le_trans (Nat.mul_le_mul_right _ (by omega)) hbytes)
      have hgr := made 0 (by omega) (Value.ownBlock (.slice none 0 0))
      simp only [Nat.zero_add, List.nil_append, Array.empty_append] at hgr ⊢
      exact ⟨_, _, hr, hgr.1, hgr.2, .inr rfl⟩
  · cases hv
    by_cases hroom : n + m ≤ c
    · have hfit : n * i.size + news.length ≤ cur.size := by rw [hl, hcs, ← Nat.add_mul]; exact Nat.mul_le_mul_right _ hroom
      have hr := run_append_room (P := P) w t ty e i ht hi g n c cur hg ad m c2 news hl hnews h1 hroom hfit
      refine ⟨_, _, hr, ⟨hlen, .inr ⟨g, c, _, rfl, hbg, setRow_heap w g cur _ e _ hg, hroom, hcm, ?_, ?_⟩⟩, ⟨rfl, rfl, rfl, by simp, fun k _ hk => setRow_other w g k _ (fun e => hk (by simp [Value.ownBlock, e]))⟩, .inl rfl⟩
      · simp only [List.size_toArray, List.length_append, List.length_take, List.length_drop, Array.length_toList]
        omega
      · rw [htake, ← hlen]
        exact List.take_left
    · have holds : ∀ (j : Nat) (u : Value), xs[j]? = some u → w.cell? ((⟨g, 0, none⟩ : Addr).add j) = some u := by
        intro j u hu
        obtain ⟨a, ha, hc⟩ := Own.cs hown j u hu
        cases ha
        exact hc
      have hr := run_append_grow (P := P) w t ty e i z ht hi hz ⟨g, 0, none⟩ n c xs hown.1 holds ad m c2 news hl hnews (by omega) (by omega) (growslice_fits_wide (by omega) hbytes)
      have hgr := made c (by omega) (Value.ownBlock (.slice (some ⟨g, 0, none⟩) n c))
      exact ⟨_, _, hr, hgr.1, hgr.2, .inr rfl⟩
theorem app_wide {P : Program} {t ty e : TypeId} {z : Value} {size bytes B n c m c2 : Nat} {A A2 : Option Addr} {xs news : List Value} {w : World} {K : Value → World → Prop} (ht : P.underlying t = some (.slice e)) (hE : ElemT P e z size bytes) (hzs : z.cells.size = size) (hsz : 0 < size)
    (hown : Own w B e size A n c xs) (hsrc : Cs w A2 news) (hl : news.length = m * size) (h1 : ∀ u ∈ news, u.oneCell' = true) (h63 : n + m ≤ maxLen) (hbytes : ((n + m) + (n + m) / 4 + 192) * bytes ≤ 281474976710656) (hB : B ≤ w.heap.size)
    (hK : ∀ A' c' w', Own w' B e size A' (n + m) c' (xs ++ news) → Mod (atB A) w w' → (∀ k, atB A' k → atB A k ∨ k = w.heap.size) → K (.slice A' (n + m) c') w') :
    runP P (Builtin.append_ #[t, t] ty #[.slice A n c, .slice A2 m c2]) w K := by
  obtain ⟨i, hi, hz, hs, hby⟩ := info_parts hE
  have fin : ∀ v' w', w'.ownsRow B e size v' (n + m) (xs ++ news) → w.grownBy w' (Value.slice A n c).ownBlock → (v'.ownBlock = (Value.slice A n c).ownBlock ∨ v'.ownBlock = some w.heap.size) → K v' w' := by
    have last : ∀ A' c' w', Own w' B e size A' (n + m) c' (xs ++ news) → w.grownBy w' (Value.slice A n c).ownBlock → ((Value.slice A' (n + m) c').ownBlock = (Value.slice A n c).ownBlock ∨ (Value.slice A' (n + m) c').ownBlock = some w.heap.size) → K (.slice A' (n + m) c') w' := by
      intro A' c' w' ho hg hat
      refine hK A' c' w' ho (Mod.of_grown hg fun k hk => ownBlock_at.1 hk) fun k hk => ?_
      rcases hat with h | h
      · left
        exact (ownBlock_at (n := n) (c := c)).1 (by rw [← h]; exact ownBlock_at.2 hk)
      · right
        have := (ownBlock_at (n := n + m) (c := c')).2 hk
        rw [this] at h
        exact Option.some.inj h
    intro v' w' ho hg hat
    rcases ho.2 with ⟨hv, hn⟩ | ⟨g, cap, cur, hv, rest⟩
    · subst hv
      have e1 : (Value.slice none 0 0) = .slice none (n + m) 0 := by rw [hn]
      rw [e1] at ho hat ⊢
      exact last _ _ _ ho hg hat
    · subst hv
      exact last _ _ _ ho hg hat
  rcases A2 with _ | ad
  · have hn : news = [] := by
      cases news with
      | nil => rfl
      | cons u r =>
        obtain ⟨a, ha, _⟩ := hsrc 0 u (by simp)
        cases ha
    subst hn
    have hm : m = 0 := by
      have : m * size = 0 := by simpa using hl.symm
      rcases Nat.mul_eq_zero.1 this with h | h <;> omega
    subst hm
    exact ⟨.slice A n c, w, run_app_none ht hi hown, fin _ _ (by simpa using hown) (World.grownBy.refl w _) (.inl rfl)⟩
  · have hcells : ∀ (j : Nat) (u : Value), news[j]? = some u → w.cell? (ad.add j) = some u := by
      intro j u hu
      obtain ⟨a, ha, hc⟩ := hsrc j u hu
      injection ha with ha
      subst ha
      exact hc
    subst hs
    subst hby
    obtain ⟨v', w', hrun, h2, h3, h5⟩ := run_app_wide (P := P) (ty := ty) (c2 := c2) ht hi hz hzs hsz hown hl hcells h1 h63 hbytes hB
    exact ⟨v', w', hrun, fin _ _ h2 h3 h5⟩
end Go.Proofs.RV

/-! ### Rows that are read out of rows. -/
namespace Go.Proofs.RV
open Go Go.RowKit
set_option linter.unusedSimpArgs false
set_option linter.unusedVariables false
theorem ldRow_eq {w : World} {a : Addr} {n : Nat} {cs : List Value} (hn : cs.length = n) (h : ∀ i, i < n → w.cell? (a.add i) = cs[i]?) (K : Value → Prop) : ldRow n a w K = K (.agg cs.toArray) := by
  apply propext
  constructor
  · rintro ⟨xs, hs, hx, hk⟩
    have : xs = cs.toArray := by
      apply Array.ext
      · rw [hs]; simp [hn]
      · intro i h1 h2
        have h3 := hx i (by omega)
        rw [h i (by omega)] at h3
        have h4 : i < cs.length := by simpa using h2
        rw [List.getElem?_eq_getElem h4, Array.getElem?_eq_getElem h1] at h3
        simpa using (Option.some.inj h3).symm
    rw [← this]
    exact hk
  · intro hk
    exact ⟨cs.toArray, by simp [hn], fun i hi => by rw [h i hi]; simp, hk⟩
section
variable {M : Type} {E : M → List Value} {s : Nat}
theorem Cs.rowEq {w : World} {a : Addr} {ms : List M} (hc : Cs w (some a) (ms.flatMap E)) (h : ∀ m ∈ ms, (E m).length = s) {i : Nat} {m : M} (hi : ms[i]? = some m) (K : Value → Prop) : ldRow s (a.add (i * s)) w K = K (.agg (E m).toArray) :=
  ldRow_eq (h m (List.mem_of_getElem? hi)) (fun j hj => hc.elemA h hi hj) K
theorem row_cut : ∀ (ms : List M), (∀ m ∈ ms, (E m).length = s) → ∀ (i : Nat) (m : M), ms[i]? = some m → ((ms.flatMap E).drop (i * s)).take s = E m
  | [], _, i, m, h => by cases h
  | x :: r, hl, 0, m, h => by
    cases h
    have := hl x (List.mem_cons_self ..)
    simp only [List.flatMap_cons, Nat.zero_mul, List.drop_zero]
    rw [← this, List.take_left]
  | x :: r, hl, i + 1, m, h => by
    have := hl x (List.mem_cons_self ..)
    simp only [List.flatMap_cons]
    rw [Nat.add_mul, Nat.one_mul, Nat.add_comm, ← List.drop_drop, ← this, List.drop_left, this]
    exact row_cut r (fun m hm => hl m (List.mem_cons_of_mem _ hm)) i m (by simpa using h)
theorem row_fits (ms : List M) (h : ∀ m ∈ ms, (E m).length = s) {i : Nat} (hi : i < ms.length) : i * s + s ≤ (ms.flatMap E).length := by
  rw [row_len ms h, ← Nat.succ_mul]
  exact Nat.mul_le_mul_right _ hi
end
end Go.Proofs.RV

/-! ### A region whose order the tape draws, where all that turns memory stands in one line: it is walked in the text's order, under whatever frame; what only reads, and reads the same all through the frame, may run at any time. -/
namespace Go.Proofs.RV
open Go Go.RowKit
set_option linter.unusedSimpArgs false
set_option linter.unusedVariables false
/-- in every world of the frame the operation yields v, and leaves the world as it was -/
def ValE (P : Program) (Ext : World → World → Prop) (o : Oper) (ρ : Operand → Value) (w : World) (v : Value) : Prop := ∀ w1, Ext w w1 → (execOp ρ o).run P w1 = .ok (.value v) w1
theorem valE_unique {P : Program} {Ext : World → World → Prop} {o : Oper} {ρ : Operand → Value} {w : World} {v v' : Value} (hr : Ext w w) (h : ValE P Ext o ρ w v) (h' : ValE P Ext o ρ w v') : v = v' := by
  have h1 := h w hr
  rw [h' w hr] at h1
  injection h1 with h1
  injection h1 with h1
  exact h1.symm
section
variable {P : Program} {Ext : World → World → Prop} {ops : Array Oper} {w0 : World}
/-- one operation: f tells whether it touches memory -/
def stepSK (P : Program) (Ext : World → World → Prop) (ops : Array Oper) (w0 : World) (f : Bool) (o : Oper) (e : Env) (w : World) (N : Env → World → Prop) : Prop :=
  if wants o.guard ops e = true then
    (if f = true then Ends P ((execOp (ev e) o).run P w) (fun v w' => Ext w0 w' ∧ N (upO e o.dst v) w') else ∃ v, ValE P Ext o (ev e) w0 v ∧ N (upO e o.dst v) w)
  else N (upO e o.dst undef) w
theorem stepS_monoK {f : Bool} {o : Oper} {e : Env} {w : World} {N N' : Env → World → Prop} (h : stepSK P Ext ops w0 f o e w N) (hN : ∀ e w, N e w → N' e w) : stepSK P Ext ops w0 f o e w N' := by
  unfold stepSK at *
  split at h
  · rename_i hw
    rw [if_pos hw]
    split at h
    · rename_i hf
      rw [if_pos hf]
      exact h.mono fun v w' ⟨h1, h2⟩ => ⟨h1, hN _ _ h2⟩
    · rename_i hf
      rw [if_neg hf]
      obtain ⟨v, h1, h2⟩ := h
      exact ⟨v, h1, hN _ _ h2⟩
  · rename_i hw
    rw [if_neg hw]
    exact hN _ _ h
def sqSK (P : Program) (Ext : World → World → Prop) (ops : Array Oper) (w0 : World) : List (Bool × Nat × Oper) → Env → World → (Env → World → Prop) → Prop
  | [], e, w, K => K e w
  | (f, _, o) :: r, e, w, K => stepSK P Ext ops w0 f o e w fun e w => sqSK P Ext ops w0 r e w K
theorem sqS_consK (f : Bool) (k : Nat) (o : Oper) (r : List (Bool × Nat × Oper)) (e : Env) (w : World) (K : Env → World → Prop) : sqSK P Ext ops w0 ((f, k, o) :: r) e w K = stepSK P Ext ops w0 f o e w fun e w => sqSK P Ext ops w0 r e w K := rfl
theorem Indep.valE {o q : Oper} (h : Indep ops o q) (e : Env) (v u : Value) : ValE P Ext o (ev (upO e q.dst v)) w0 u ↔ ValE P Ext o (ev e) w0 u := by
  unfold ValE
  rw [h.exec e v]
theorem swapK (hrf : Ext w0 w0) {o q : Oper} (h : Indep ops o q) {f g : Bool} (hfg : ¬ (f = true ∧ g = true)) {e : Env} {w : World} {N : Env → World → Prop}
    (hs : stepSK P Ext ops w0 g q e w fun e w => stepSK P Ext ops w0 f o e w N) : stepSK P Ext ops w0 f o e w fun e w => stepSK P Ext ops w0 g q e w N := by
  have h' := h.symm
  have comm : ∀ a b, upO (upO e q.dst a) o.dst b = upO (upO e o.dst b) q.dst a := fun a b => upO_comm h'.dd
  unfold stepSK at *
  simp only [h.wants, h'.wants, h.exec, h'.exec, h.valE, h'.valE] at *
  by_cases wq : wants q.guard ops e = true
  · simp only [wq, if_true] at *
    by_cases wo : wants o.guard ops e = true
    · simp only [wo, if_true] at *
      cases g with
      | true =>
        cases f with
        | true => exact absurd ⟨rfl, rfl⟩ hfg
        | false =>
          simp only [if_true, Bool.false_eq_true, if_false] at *
          obtain ⟨_, _, _, vo, hvo, _⟩ := hs.exists
          refine ⟨vo, hvo, hs.mono ?_⟩
          rintro v w' ⟨h1, vo', hvo', h2⟩
          rw [valE_unique hrf hvo hvo', ← comm]
          exact ⟨h1, h2⟩
      | false =>
        cases f with
        | true =>
          simp only [if_true, Bool.false_eq_true, if_false] at *
          obtain ⟨vq, hvq, h2⟩ := hs
          refine h2.mono ?_
          rintro v w' ⟨h3, h4⟩
          refine ⟨h3, vq, hvq, ?_⟩
          rw [← comm]
          exact h4
        | false =>
          simp only [Bool.false_eq_true, if_false] at *
          obtain ⟨vq, hvq, vo, hvo, h2⟩ := hs
          refine ⟨vo, hvo, vq, hvq, ?_⟩
          rw [← comm]
          exact h2
    · simp only [wo, Bool.false_eq_true, if_false] at *
      cases g with
      | true =>
        simp only [if_true] at *
        refine hs.mono ?_
        rintro v w' ⟨h1, h2⟩
        rw [← comm]
        exact ⟨h1, h2⟩
      | false =>
        simp only [Bool.false_eq_true, if_false] at *
        obtain ⟨vq, hvq, h2⟩ := hs
        refine ⟨vq, hvq, ?_⟩
        rw [← comm]
        exact h2
  · simp only [wq, Bool.false_eq_true, if_false] at *
    by_cases wo : wants o.guard ops e = true
    · simp only [wo, if_true] at *
      cases f with
      | true =>
        simp only [if_true] at *
        refine hs.mono ?_
        rintro v w' ⟨h1, h2⟩
        rw [← comm]
        exact ⟨h1, h2⟩
      | false =>
        simp only [Bool.false_eq_true, if_false] at *
        obtain ⟨vo, hvo, h2⟩ := hs
        refine ⟨vo, hvo, ?_⟩
        rw [← comm]
        exact h2
    · simp only [wo, Bool.false_eq_true, if_false] at *
      rw [← comm]
      exact hs
theorem frontK (hrf : Ext w0 w0) {f : Bool} {i : Nat} {o : Oper} {post : List (Bool × Nat × Oper)} {K : Env → World → Prop} : ∀ (pre : List (Bool × Nat × Oper)), (∀ x ∈ pre, Indep ops o x.2.2 ∧ ¬ (f = true ∧ x.1 = true)) → ∀ (e : Env) (w : World),
    sqSK P Ext ops w0 (pre ++ (f, i, o) :: post) e w K → sqSK P Ext ops w0 ((f, i, o) :: (pre ++ post)) e w K
  | [], _, e, w, hs => hs
  | (g, j, q) :: pre, h, e, w, hs => by
    have h0 := h (g, j, q) (List.mem_cons_self ..)
    have hs' : stepSK P Ext ops w0 g q e w fun e w => stepSK P Ext ops w0 f o e w fun e w => sqSK P Ext ops w0 (pre ++ post) e w K :=
      stepS_monoK (N := fun e w => sqSK P Ext ops w0 (pre ++ (f, i, o) :: post) e w K) hs fun e w hh => frontK hrf pre (fun x hx => h x (List.mem_cons_of_mem _ hx)) e w hh
    exact swapK hrf h0.1 h0.2 hs'
variable {D : List (List Nat)}
theorem any_seqK (hrf : Ext w0 w0) (hD : OkD ops D) {F : List Bool} (hF : okF D F = true) {n : Nat} {K : Env → World → Prop} {Q : Exit → Act → World → Prop} (hn : ∀ o ∈ ops, ∀ t, o.dst = some t → t < n) (hQ : ∀ a e w, Rep n a e → K e w → Q .normal a w) :
    ∀ (fuel : Nat) (listed : Array Bool) (a : Act) (e : Env) (w : World), listed.size = ops.size → Rep n a e → (∀ (i : Nat) (o : Oper), ops[i]? = some o → listed.getD i false = true → ∀ x ∈ D.getD i [], listed.getD x false = true) → Ext w0 w →
      sqSK P Ext ops w0 (rems F listed ops.toList.zipIdx) e w K → ((List.range ops.size).filter fun j => !listed.getD j false).length ≤ fuel → wpAny P .any ops Q fuel listed a w := by
  intro fuel
  induction fuel with
  | zero =>
    intro listed a e w hsz hr hsh hb hs hf
    have hall : ∀ j, j < ops.size → listed.getD j false = true := by
      intro j hj
      cases h : listed.getD j false with
      | true => rfl
      | false =>
        have : j ∈ (List.range ops.size).filter fun j => !listed.getD j false := List.mem_filter.2 ⟨List.mem_range.2 hj, by rw [h]; rfl⟩
        rw [List.eq_nil_of_length_eq_zero (Nat.le_zero.1 hf)] at this
        cases this
    have hrem : rems F listed ops.toList.zipIdx = [] := by
      unfold rems
      rw [List.filter_eq_nil_iff.2 fun x hx => ?_, List.map_nil]
      have := List.mem_zipIdx hx
      rw [hall x.2 (by simp at this; omega)]
      simp
    rw [hrem] at hs
    refine ⟨?_, hQ _ _ _ hr hs⟩
    refine List.eq_nil_iff_forall_not_mem.2 fun j hj => ?_
    obtain ⟨h1, o, ho, _⟩ := mem_ready.1 hj
    have hj' := (Array.getElem?_eq_some_iff.1 ho).1
    have h2 := hall j hj'
    simp only [Array.getD_eq_getD_getElem?, Array.getElem?_eq_getElem (hsz ▸ hj'), Option.getD_some] at h1 h2
    rw [h1] at h2
    cases h2
  | succ fuel ih =>
    intro listed a e w hsz hr hsh hb hs hf
    have same : ∀ j, j < ops.size → listed.getD j true = listed.getD j false := fun j hj => by
      simp [Array.getD_eq_getD_getElem?, Array.getElem?_eq_getElem (hsz ▸ hj)]
    refine ⟨fun hnil => ?_, fun i hi => ?_⟩
    · have key : ∀ m j (q : Oper), j ≤ m → ops[j]? = some q → listed.getD j false = true := by
        intro m
        induction m with
        | zero =>
          intro j q hj hq
          obtain rfl : j = 0 := by omega
          cases h : listed.getD 0 false with
          | true => rfl
          | false =>
            have : 0 ∈ Region.ready .any ops listed := mem_ready.2 ⟨by rw [same 0 (Array.getElem?_eq_some_iff.1 hq).1]; exact h, q, hq, fun ed hed hb => absurd (hD.lt 0 q hq ed.on (hD.bind 0 q hq ed.on (List.mem_filterMap.2 ⟨ed, by simpa using hed, by rw [if_pos hb]⟩))) (Nat.not_lt_zero _)⟩
            rw [hnil] at this
            cases this
        | succ m ihm =>
          intro j q hj hq
          by_cases hjm : j ≤ m
          · exact ihm j q hjm hq
          · cases h : listed.getD j false with
            | true => rfl
            | false =>
              have : j ∈ Region.ready .any ops listed := mem_ready.2 ⟨by rw [same j (Array.getElem?_eq_some_iff.1 hq).1]; exact h, q, hq, fun ed hed hb => by
                have h1 := hD.bind j q hq ed.on (List.mem_filterMap.2 ⟨ed, by simpa using hed, by rw [if_pos hb]⟩)
                have h2 := hD.lt j q hq ed.on h1
                have h3 := (Array.getElem?_eq_some_iff.1 hq).1
                exact ihm ed.on _ (by omega) (Array.getElem?_eq_getElem (show ed.on < ops.size by omega))⟩
              rw [hnil] at this
              cases this
      have hrem : rems F listed ops.toList.zipIdx = [] := by
        unfold rems
        rw [List.filter_eq_nil_iff.2 fun x hx => ?_, List.map_nil]
        have hx2 := List.mem_zipIdx hx
        have hlt : x.2 < ops.size := by simp at hx2; omega
        rw [key x.2 x.2 _ (Nat.le_refl _) (Array.getElem?_eq_getElem hlt)]
        simp
      rw [hrem] at hs
      exact hQ _ _ _ hr hs
    · obtain ⟨h1, o, ho, h2⟩ := mem_ready.1 hi
      have hi' := (Array.getElem?_eq_some_iff.1 ho).1
      have hLi : listed.getD i false = false := (same i hi').symm.trans h1
      have hdone : ∀ x ∈ D.getD i [], listed.getD x false = true := by
        have hb : ∀ x ∈ binding o, listed.getD x false = true := by
          intro x hx
          obtain ⟨ed, hed, hh⟩ := List.mem_filterMap.1 hx
          by_cases hb : Region.binds .any ed = true
          · rw [if_pos hb] at hh
            injection hh with hh
            subst hh
            exact h2 ed (by simpa using hed) hb
          · rw [if_neg hb] at hh
            cases hh
        intro x hx
        rcases hD.dep i o ho x hx with h3 | ⟨j, hj, hxj⟩
        · exact hb x h3
        · have hjs : j < ops.size := by
            have := hD.lt i o ho j (hD.bind i o ho j hj)
            omega
          exact hsh j _ (Array.getElem?_eq_getElem hjs) (hb j hj) x hxj
      -- the list, parted at i
      have hsplit : ops.toList.zipIdx = ops.toList.zipIdx.take i ++ (o, i) :: ops.toList.zipIdx.drop (i + 1) := by
        have hg : ops.toList.zipIdx[i]? = some (o, i) := by
          rw [List.getElem?_zipIdx]
          simp [ho]
        have hlt := (List.getElem?_eq_some_iff.1 hg).1
        conv => lhs; rw [← List.take_append_drop i ops.toList.zipIdx]
        rw [List.drop_eq_getElem_cons hlt]
        rw [(List.getElem?_eq_some_iff.1 hg).2]
      have hpre : ∀ x ∈ ops.toList.zipIdx.take i, x.2 < i ∧ ops[x.2]? = some x.1 := by
        intro x hx
        obtain ⟨k, hk⟩ := List.getElem?_of_mem hx
        rw [List.getElem?_take] at hk
        split at hk
        · rename_i hki
          rw [List.getElem?_zipIdx] at hk
          simp only [Option.map_eq_some_iff] at hk
          obtain ⟨y, hy, rfl⟩ := hk
          simp only [Nat.zero_add]
          exact ⟨hki, by simpa using hy⟩
        · cases hk
      have hpost : ∀ x ∈ ops.toList.zipIdx.drop (i + 1), x.2 ≠ i := by
        intro x hx
        obtain ⟨k, hk⟩ := List.getElem?_of_mem hx
        rw [List.getElem?_drop, List.getElem?_zipIdx] at hk
        simp only [Option.map_eq_some_iff] at hk
        obtain ⟨y, hy, rfl⟩ := hk
        simp only
        omega
      have hr1 : rems F listed ops.toList.zipIdx = rems F listed (ops.toList.zipIdx.take i) ++ (F.getD i false, i, o) :: rems F listed (ops.toList.zipIdx.drop (i + 1)) := by
        conv => lhs; rw [hsplit]
        unfold rems
        rw [List.filter_append, List.map_append, List.filter_cons_of_pos (by simp only [hLi]; rfl), List.map_cons]
      have hr2 : rems F (listed.setIfInBounds i true) ops.toList.zipIdx = rems F listed (ops.toList.zipIdx.take i) ++ rems F listed (ops.toList.zipIdx.drop (i + 1)) := by
        conv => lhs; rw [hsplit]
        rw [← rems_listed (F := F) (hsz ▸ hi') (ops.toList.zipIdx.take i) (fun x hx => by have := (hpre x hx).1; omega), ← rems_listed (F := F) (hsz ▸ hi') (ops.toList.zipIdx.drop (i + 1)) hpost]
        unfold rems
        rw [List.filter_append, List.map_append, List.filter_cons_of_neg (by simp only [set_get (hsz ▸ hi')]; simp)]
      rw [hr1] at hs
      have hs2 := frontK hrf (rems F listed (ops.toList.zipIdx.take i)) (fun x hx => by
        unfold rems at hx
        obtain ⟨y, hy, rfl⟩ := List.mem_map.1 hx
        obtain ⟨hy1, hy2⟩ := List.mem_filter.1 hy
        obtain ⟨hlt, hq⟩ := hpre y hy1
        have hyl : listed.getD y.2 false = false := by simpa using hy2
        have hnd : y.2 ∉ D.getD i [] := fun hh => by rw [hdone _ hh] at hyl; cases hyl
        have hnd2 : i ∉ D.getD y.2 [] := fun hh => by have := hD.lt y.2 _ hq i hh; omega
        refine ⟨⟨fun s hs hd => ?_, fun s hs hd => ?_, fun s hd => hD.dst i o y.2 _ ho hq (by omega) s hd, hD.sel i o ho, hD.sel y.2 _ hq⟩, fun hff => ?_⟩
        · rcases hD.read i o ho s hs y.2 _ hq hd with h5 | h5
          · exact hnd h5
          · exact hnd2 h5
        · rcases hD.read y.2 _ hq s hs i o ho hd with h5 | h5
          · exact hnd2 h5
          · exact hnd h5
        · exact hnd (okF_spec hF hff.2 hff.1 hlt)) e w hs
      rw [sqS_consK] at hs2
      rw [← hr2] at hs2
      have hlen : ((List.range ops.size).filter fun j => !(listed.setIfInBounds i true).getD j false).length ≤ fuel := by
        have hsub : ((List.range ops.size).filter fun j => !(listed.setIfInBounds i true).getD j false) = ((List.range ops.size).filter fun j => !listed.getD j false).filter (fun j => !(j == i)) := by
          rw [List.filter_filter]
          apply List.filter_congr
          intro j _
          rw [set_get (hsz ▸ hi')]
          by_cases hji : j = i
          · simp [hji]
          · simp [hji]
        have hmem : i ∈ (List.range ops.size).filter fun j => !listed.getD j false := List.mem_filter.2 ⟨List.mem_range.2 hi', by rw [hLi]; rfl⟩
        rw [hsub]
        have : (((List.range ops.size).filter fun j => !listed.getD j false).filter fun j => !(j == i)).length < ((List.range ops.size).filter fun j => !listed.getD j false).length := by
          refine List.length_filter_lt_length_iff_exists.2 ⟨i, hmem, by simp⟩
        omega
      have hsh' : ∀ (j : Nat) (q : Oper), ops[j]? = some q → (listed.setIfInBounds i true).getD j false = true → ∀ x ∈ D.getD j [], (listed.setIfInBounds i true).getD x false = true := by
        intro j q hq hj x hx
        rw [set_get (hsz ▸ hi')] at hj ⊢
        split
        · rfl
        · split at hj
          · rename_i hji
            subst hji
            exact hdone x hx
          · exact hsh j q hq hj x hx
      have hnd := hn o (by rw [Array.mem_iff_getElem?]; exact ⟨i, ho⟩)
      have next : ∀ v w', Ext w0 w' → sqSK P Ext ops w0 (rems F (listed.setIfInBounds i true) ops.toList.zipIdx) (upO e o.dst v) w' K → wpAny P .any ops Q fuel (listed.setIfInBounds i true) (a.put o.dst v) w' :=
        fun v w' hb' hh => ih _ _ _ _ (by simpa using hsz) (hr.put _ hnd v) hsh' hb' hh hlen
      unfold wpOp
      simp only [ho]
      rw [wanted_eq hr]
      unfold stepSK at hs2
      by_cases hw : wants o.guard ops e = true
      · rw [if_pos hw] at hs2 ⊢
        refine .inl ?_
        by_cases hff : F.getD i false = true
        · rw [if_pos hff] at hs2
          exact op_wp hr hs2 fun v w' ⟨h3, h4⟩ => next v w' h3 h4
        · rw [if_neg hff] at hs2
          obtain ⟨v, hval, h4⟩ := hs2
          refine op_wp (K := fun u w' => u = v ∧ w' = w) hr ?_ ?_
          · rw [hval w hb]
            exact ⟨rfl, rfl⟩
          · rintro u w' ⟨rfl, rfl⟩
            exact next u w' hb h4
      · rw [if_neg hw] at hs2 ⊢
        exact next undef w hb hs2
end
def isRead : Op → Bool
  | .load _ _ => true
  | .convert _ _ _ => true
  | _ => false
/-- a read: the same all through the frame -/
def readK (P : Program) (Ext : World → World → Prop) (o : Oper) (e : Env) (w0 : World) (N : Value → Prop) : Prop :=
  isRead o.op = true ∧ ∃ v, (∀ w1, Ext w0 w1 → opP P o e w1 fun u w' => u = v ∧ w' = w1) ∧ N v
theorem readK_sound {P : Program} {Ext : World → World → Prop} {o : Oper} {e : Env} {w0 : World} {N : Value → Prop} (h : readK P Ext o e w0 N) : ∃ v, ValE P Ext o (ev e) w0 v ∧ N v := by
  obtain ⟨hr, v, h1, h2⟩ := h
  refine ⟨v, fun w1 hx => ?_, h2⟩
  have h3 := op_sound (h1 w1 hx)
  obtain ⟨dst, op, ty, pos, aft, gd⟩ := o
  have key : ∀ n w', (execOp (ev e) ⟨dst, op, ty, pos, aft, gd⟩).run P w1 = .ok n w' → ∃ u, n = .value u := by
    intro n w' hh
    cases op with
    | load T x => exact lifted_value hh
    | convert S D x => exact lifted_value hh
    | _ => cases hr
  generalize (execOp (ev e) ⟨dst, op, ty, pos, aft, gd⟩).run P w1 = rr at h3 key ⊢
  unfold Ends at h3
  split at h3
  · obtain ⟨rfl, rfl⟩ := h3; rfl
  · obtain ⟨u, hu⟩ := key _ _ rfl; cases hu
  · obtain ⟨u, hu⟩ := key _ _ rfl; cases hu
  · exact h3.elim
/-- one operation, computed: 0 quiet, 1 turns memory, 2 reads what the frame keeps -/
def skI (f : Nat) (P : Program) (B : Nat) (Ext : World → World → Prop) (w0 : World) (o : Oper) (e : Env) (w : World) (N : Value → World → Prop) (_ : Mark N) : Prop :=
  match f with
  | 0 => opV P B o e w0 fun v => N v w
  | 1 => opP P o e w fun v w' => Ext w0 w' ∧ N v w'
  | _ => readK P Ext o e w0 fun v => N v w
def skP (P : Program) (B : Nat) (Ext : World → World → Prop) (ops : Array Oper) (w0 : World) : List Oper → List Nat → Env → World → (Env → World → Prop) → Prop
  | [], _, e, w, K => K e w
  | o :: r, fs, e, w, K => guardP o.guard ops e
      (fun e => skI (fs.headD 0) P B Ext w0 o e w (fun v w' => skP P B Ext ops w0 r fs.tail (upO e o.dst v) w' K) .mk)
      (fun e => skP P B Ext ops w0 r fs.tail (upO e o.dst undef) w K)
theorem sk_sound {P : Program} {B : Nat} {Ext : World → World → Prop} {ops : Array Oper} {w0 : World} {K : Env → World → Prop} {F : List Bool} (hBe : ∀ w', Ext w0 w' → Below B w0 w') : ∀ (l : List Oper) (k : Nat) (fs : List Nat) (e : Env) (w : World), (∀ j, (fs.getD j 0 == 1) = F.getD (k + j) false) → skP P B Ext ops w0 l fs e w K →
    sqSK P Ext ops w0 ((l.zipIdx k).map fun x => (F.getD x.2 false, x.2, x.1)) e w K
  | [], k, fs, e, w, hfs, h => h
  | o :: r, k, fs, e, w, hfs, h => by
    have h0 : (fs.headD 0 == 1) = F.getD k false := by
      have := hfs 0
      rw [Nat.add_zero] at this
      rw [← this]
      cases fs <;> rfl
    have ht : ∀ j, (fs.tail.getD j 0 == 1) = F.getD (k + 1 + j) false := fun j => by
      have := hfs (j + 1)
      rw [show k + (j + 1) = k + 1 + j by omega] at this
      rw [← this]
      cases fs <;> simp
    unfold skP at h
    rw [guard_ite] at h
    rw [List.zipIdx_cons, List.map_cons, sqS_consK]
    unfold stepSK
    by_cases hw : wants o.guard ops e = true
    · rw [if_pos hw] at h ⊢
      generalize fs.headD 0 = f at h h0
      rw [← h0]
      unfold skI at h
      split at h
      · rw [if_neg (by simp)]
        obtain ⟨v, h1, h2⟩ := opV_sound h
        exact ⟨v, fun w1 hx => h1 w1 (hBe w1 hx), sk_sound hBe r (k + 1) fs.tail _ _ ht h2⟩
      · rw [if_pos (by simp)]
        exact (op_sound h).mono fun v w' ⟨h1, h2⟩ => ⟨h1, sk_sound hBe r (k + 1) fs.tail _ _ ht h2⟩
      · rename_i h5 h6
        rw [if_neg (by simpa using h6)]
        obtain ⟨v, h1, h2⟩ := readK_sound h
        exact ⟨v, h1, sk_sound hBe r (k + 1) fs.tail _ _ ht h2⟩
    · rw [if_neg hw] at h ⊢
      exact sk_sound hBe r (k + 1) fs.tail _ _ ht h
theorem draw_line {P : Program} {id : Nat} {l : List Oper} {e0 : Env} {w0 : World} {K : Env → World → Prop} (B : Nat) (Ext : World → World → Prop) (F : List Nat) (D : List (List Nat)) (hm : P.follows .mixedOrders = true) (hD : okD l.toArray D = true) (hF : okF D (F.map (· == 1)) = true)
    (hrf : Ext w0 w0) (hdr : ∀ w', More w0 w' → Ext w0 w') (hBe : ∀ w', Ext w0 w' → Below B w0 w')
    (hv : ∀ w1, More w0 w1 → skP P B Ext l.toArray w0 l F e0 w1 (Stop K .mk)) : drawP P id l.toArray e0 w0 K := by
  intro n a hd hr
  refine wp_region_any hm ?_
  refine any_seqK (Ext := Ext) (w0 := w0) hrf (okD_spec hD) hF hd (fun a e w hr hk => ⟨e, hr, rfl, hk⟩) l.toArray.size _ a e0 _ (by simp) hr ?_ (hdr _ (below_drawn _ _)) ?_ ?_
  · intro i o ho hi
    simp [Array.getD_eq_getD_getElem?, Array.getElem?_replicate] at hi
    split at hi <;> simp at hi
  · have h1 := sk_sound (F := F.map (· == 1)) hBe l 0 F e0 _ (fun j => by
      rw [Nat.zero_add, List.getD_eq_getElem?_getD, List.getD_eq_getElem?_getD, List.getElem?_map]
      cases F[j]? <;> rfl) (hv _ (below_drawn _ _))
    have h2 : rems (F.map (· == 1)) (Array.replicate l.toArray.size false) l.toArray.toList.zipIdx = (l.zipIdx 0).map fun x => ((F.map (· == 1)).getD x.2 false, x.2, x.1) := by
      unfold rems
      rw [List.filter_eq_self.2 fun x _ => ?_]
      simp [Array.getD_eq_getD_getElem?, Array.getElem?_replicate]
      split <;> rfl
    rw [h2]
    exact h1
  · exact Nat.le_trans (List.length_filter_le _ _) (by simp)
/-! ### The rules by which it unfolds -/
section
variable (P : Program) (B : Nat) (Ext : World → World → Prop) (ops : Array Oper) (w0 : World) (e : Env) (w : World) (K : Env → World → Prop)
theorem sk_nil (fs : List Nat) (m : Mark K) : skP P B Ext ops w0 [] fs e w (Stop K m) = K e w := propext Iff.rfl
theorem sk_cons (d : Option Nat) (op : Op) (t : TypeId) (p : String) (af : Array Edge) (r : List Oper) (f : Nat) (fs : List Nat) :
    skP P B Ext ops w0 (⟨d, op, t, p, af, none⟩ :: r) (f :: fs) e w K = skI f P B Ext w0 ⟨d, op, t, p, af, none⟩ e w (fun v w' => skP P B Ext ops w0 r fs (upO e d v) w' K) .mk := by
  conv => lhs; unfold skP
  rfl
theorem sk_guard (d : Option Nat) (op : Op) (t : TypeId) (p : String) (af : Array Edge) (g : Nat × Bool) (r : List Oper) (f : Nat) (fs : List Nat) :
    skP P B Ext ops w0 (⟨d, op, t, p, af, some g⟩ :: r) (f :: fs) e w K = guardP (some g) ops e (Stop (fun e => skI f P B Ext w0 ⟨d, op, t, p, af, none⟩ e w (fun v w' => skP P B Ext ops w0 r fs (upO e d v) w' K) .mk) .mk) (Stop (fun e => skP P B Ext ops w0 r fs (upO e d undef) w K) .mk) := by
  conv => lhs; unfold skP
  rfl
theorem sk_zero (o : Oper) (N : Value → World → Prop) (m : Mark N) : skI 0 P B Ext w0 o e w N m = opV P B o e w0 (Stop (fun v => N v w) .mk) := propext Iff.rfl
theorem sk_one (o : Oper) (N : Value → World → Prop) (m : Mark N) : skI 1 P B Ext w0 o e w N m = opP P o e w (Stop (fun v w' => Ext w0 w' ∧ N v w') .mk) := propext Iff.rfl
theorem sk_two (o : Oper) (N : Value → World → Prop) (m : Mark N) : skI 2 P B Ext w0 o e w N m = readK P Ext o e w0 (Stop (fun v => N v w) .mk) := propext Iff.rfl
end
/-- a read, where it is known what is read -/
theorem read_ok {P : Program} {Ext : World → World → Prop} {o : Oper} {e : Env} {w0 : World} {N : Value → Prop} (v : Value) (hr : isRead o.op = true) (h : ∀ w1, Ext w0 w1 → opP P o e w1 fun u w' => u = v ∧ w' = w1) (hk : N v) : readK P Ext o e w0 N := ⟨hr, v, h, hk⟩
/-- what has no word of its own here: all below B stays, and the blocks of F -/
def KeepF (B : Nat) (F : Nat → Prop) (a b : World) : Prop := Below B a b ∧ ∀ k, F k → b.heap[k]? = a.heap[k]?
theorem KeepF.refl (B : Nat) (F : Nat → Prop) (a : World) : KeepF B F a a := ⟨Below.refl _ _, fun _ _ => rfl⟩
theorem KeepF.of_more {B : Nat} {F : Nat → Prop} {a b : World} (h : More a b) (hB : B ≤ a.heap.size) (hF : ∀ k, F k → k < a.heap.size) : KeepF B F a b := ⟨Below.mono h hB, fun k hk => h.block k (hF k hk)⟩
theorem KeepF.blk {B : Nat} {F : Nat → Prop} {a b : World} {p e : Nat} {cs : List Value} (h : KeepF B F a b) (hp : F p) (hb : Blk a p e cs) : Blk b p e cs := by
  unfold Blk at *
  rw [h.2 p hp, hb]
theorem KeepF.next {B : Nat} {F S : Nat → Prop} {a b c : World} (h : KeepF B F a b) (k : Mod S b c) (hS : ∀ x, F x → ¬ S x) (hS2 : ∀ x, x < B → ¬ S x) (hF : ∀ x, F x → x < b.heap.size) (hB : B ≤ b.heap.size) : KeepF B F a c :=
  ⟨h.1.trans (k.below hS2 hB), fun x hx => (k.block x (hF x hx) (hS x hx)).trans (h.2 x hx)⟩
theorem KeepF.more {B : Nat} {F : Nat → Prop} {a b c : World} (h : KeepF B F a b) (k : More b c) (hF : ∀ x, F x → x < b.heap.size) (hB : B ≤ b.heap.size) : KeepF B F a c :=
  ⟨h.1.trans (Below.mono k hB), fun x hx => (k.block x (hF x hx)).trans (h.2 x hx)⟩
end Go.Proofs.RV

/-! ### Structs put together of all their parts. -/
namespace Go.Proofs.RV
open Go Go.RowKit
set_option linter.unusedSimpArgs false
set_option linter.unusedVariables false
theorem laid_next {place : Nat → Option (Nat × Nat)} {cs a b c vs : List Value} {i : Nat} {v : Value} {r : List (Nat × Value)} {out : List Value} (hv : v.cells.toList = vs) (hcs : cs = a ++ (b ++ c)) (hp : place i = some (a.length, b.length)) (hl : vs.length = b.length)
    (h : laid place (a ++ (vs ++ c)) r = some out) : laid place cs ((i, v) :: r) = some out := by
  subst hv hcs
  unfold laid
  rw [hp, Option.bind_some, if_pos ⟨hl, by simp [hl]⟩, splice_eq _ _ _ (by simp [hl])]
  have e1 : (a ++ (b ++ c)).take a.length = a := by simp
  have e2 : (a ++ (b ++ c)).drop (a.length + v.cells.toList.length) = c := by rw [hl]; simp [← List.drop_drop]
  simp only at hl ⊢
  rw [e1, e2, List.append_assoc]
  exact h
def pairs : Nat → List Value → List (Nat × Value)
  | _, [] => []
  | k, v :: r => (k, v) :: pairs (k + 1) r
/-- the parts stand one behind the other -/
def PlacesOk (place : Nat → Option (Nat × Nat)) : Nat → Nat → List (List Value) → Prop
  | _, _, [] => True
  | k, off, v :: r => place k = some (off, v.length) ∧ PlacesOk place (k + 1) (off + v.length) r
theorem laid_all {place : Nat → Option (Nat × Nat)} : ∀ (vs : List Value) (k : Nat) (a z : List Value), PlacesOk place k a.length (vs.map fun v => v.cells.toList) → z.length = (vs.flatMap fun v => v.cells.toList).length →
    laid place (a ++ z) (pairs k vs) = some (a ++ vs.flatMap fun v => v.cells.toList)
  | [], k, a, z, hp, hz => by
    have : z = [] := List.eq_nil_of_length_eq_zero (by simpa using hz)
    subst this
    simp [pairs, laid]
  | v :: r, k, a, z, hp, hz => by
    obtain ⟨h1, h2⟩ := hp
    rw [List.flatMap_cons, List.length_append] at hz
    have hz' : v.cells.toList.length ≤ z.length := by rw [hz]; exact Nat.le_add_right _ _
    have hz2 : z.length - v.cells.toList.length = (r.flatMap fun v => v.cells.toList).length := by rw [hz]; exact Nat.add_sub_cancel_left ..
    unfold pairs
    refine laid_next (b := z.take v.cells.toList.length) (c := z.drop v.cells.toList.length) rfl (by rw [List.take_append_drop]) (by rw [h1, List.length_take, Nat.min_eq_left hz']) (by rw [List.length_take, Nat.min_eq_left hz']) ?_
    have h3 := laid_all r (k + 1) (a ++ v.cells.toList) (z.drop v.cells.toList.length) (by rw [List.length_append]; exact h2) (by rw [List.length_drop]; exact hz2)
    rw [List.append_assoc] at h3
    rw [h3, List.flatMap_cons, List.append_assoc]
theorem build_all {P : Program} {T : TypeId} {z : Value} (vs : List Value) {out : List Value} (hc : structOk P T = true) (hz : zer P T = some z) (hp : PlacesOk (placeOf P T) 0 0 (vs.map fun v => v.cells.toList)) (hl : z.cells.toList.length = (vs.flatMap fun v => v.cells.toList).length) (ho : (vs.flatMap fun v => v.cells.toList) = out) (w0 : World) (K : Value → Prop) :
    pureP P (Instr.build T (pairs 0 vs).toArray) K = K (.agg out.toArray) := by
  refine build_of out hc hz ?_ w0 K
  have := laid_all vs 0 [] z.cells.toList hp hl
  rw [List.nil_append, List.nil_append, ho] at this
  simpa using this
end Go.Proofs.RV

/-! ### What came in, read by its type, with how long each slice may be. -/
namespace Go.Proofs.RV
open Go Go.RowKit Go.ChangeShapes Go.WideShapes
set_option linter.unusedSimpArgs false
set_option linter.unusedVariables false
def LayS (P : Program) (w : World) : Nat → TypeId → List Value → Prop
  | 0, _, _ => False
  | n + 1, t, cs =>
    match P.underlying t with
    | some .bool => ∃ b, cs = [.bool b]
    | some (.int k) => ∃ x, cs = [.int k x] ∧ (Lit.int k x).wf = true
    | some .string => ∃ s : ByteArray, cs = [.string s] ∧ s.size ≤ maxLen
    | some (.slice e) => cs = [.slice none 0 0] ∨ ∃ (a : Addr) (len cap : Nat), cs = [.slice (some a) len cap] ∧ len ≤ cap ∧ cap ≤ maxLen ∧ cap * P.bytesOf e ≤ reachBytes ∧
        ∀ i, i < len → ∃ cs' : List Value, cs'.length = P.cellsOf e ∧ (∀ j u, cs'[j]? = some u → w.cell? (a.add (i * P.cellsOf e + j)) = some u) ∧ LayS P w n e cs'
    | some (.struct fs) => cs.length = P.cellsOf t ∧ ∀ (i : Nat) (f : Field), fs[i]? = some f → LayS P w n f.type ((cs.drop f.offset).take (P.cellsOf f.type))
    | some (.array m e) => cs.length = P.cellsOf t ∧ ∀ i, i < m → LayS P w n e ((cs.drop (i * P.cellsOf e)).take (P.cellsOf e))
    | _ => True
theorem mem_weightsAll {H : Type} {P : Program} {e : TypeId} : ∀ {ds : List (DataW H)} {d : DataW H}, d ∈ ds → ∀ n ∈ d.weights P e, n ∈ DataW.weightsAll P e ds
  | [], d, h, _, _ => by cases h
  | x :: r, d, h, n, hn => by
    simp only [DataW.weightsAll, List.mem_append]
    rcases List.mem_cons.1 h with rfl | h
    · exact .inl hn
    · exact .inr (mem_weightsAll h n hn)
section
variable {H : Type} {enc : TypeId × Value → H} {P : Program} {w : World} {base : Nat} {spare : Nat → Bool} {held : Bool}
theorem layS_of_trod (hsp : ∀ k, spare k = true) : ∀ (n : Nat) (t : TypeId) (cs : List Value) (x : DataW H × List MemPlace), DataW.trod enc P w base spare held n t cs = some x → (∀ k ∈ x.1.weights P t, k ≤ reachBytes) → LayS P w n t cs
  | 0, t, cs, x, h, _ => by simp [DataW.trod] at h
  | n + 1, t, cs, x, h, hw => by
    unfold LayS
    split
    · rename_i ht
      obtain ⟨b, hb, _⟩ := DataW.trod_bool ht h
      exact ⟨b, hb⟩
    · rename_i k ht
      obtain ⟨y, hy, _, hw⟩ := DataW.trod_int ht h
      exact ⟨y, hy, hw⟩
    · rename_i ht
      obtain ⟨s, hs, _, hl⟩ := DataW.trod_string ht h
      exact ⟨s, hs, hl⟩
    · rename_i e ht
      rcases DataW.trod_slice ht h with ⟨h1, _⟩ | ⟨a, len, cap, elems, rest, m, hm, h1, hx, _, h2, h3, h4, h5, h6', _⟩
      · exact .inl h1
      · injection hm with hm
        subst hm
        subst hx
        simp only [DataW.weights, ht] at hw
        have hcap : cap * P.bytesOf e ≤ reachBytes := by
          have := hw _ (List.mem_cons_self ..)
          rw [List.length_map, List.length_map, h4, (h6' (hsp _)).1, show len + (cap - len) = cap by omega] at this
          exact this
        refine .inr ⟨a, len, cap, h1, h2, h3, hcap, fun i hi => ?_⟩
        have h6 := h5 i hi
        rw [List.getElem?_eq_getElem (by omega)] at h6
        simp only [Option.bind_eq_some_iff] at h6
        obtain ⟨cs', h7, h8⟩ := h6
        obtain ⟨_, hl, hc⟩ := World.cells?_some h7
        refine ⟨cs', hl, fun j u hu => ?_, layS_of_trod hsp n e cs' _ h8 fun k hk => ?_⟩
        · have h9 := hc j (by rw [← hl]; exact (List.getElem?_eq_some_iff.1 hu).1)
          rw [hu, add_add] at h9
          exact h9
        · refine hw k (List.mem_cons_of_mem _ (List.mem_append_left _ (mem_weightsAll (d := (elems[i]'(by omega)).1) ?_ k hk)))
          exact List.mem_map.2 ⟨_, List.getElem_mem _, rfl⟩
    · rename_i fs ht
      obtain ⟨xs, m, hm, hx, hl, hxl, hf⟩ := DataW.trod_struct ht h
      injection hm with hm
      subst hm
      subst hx
      refine ⟨hl, fun i f hi => ?_⟩
      have h6 := hf i f hi
      have hlt := (Array.getElem?_eq_some_iff.1 hi).1
      rw [List.getElem?_eq_getElem (by omega)] at h6
      simp only [DataW.weights, ht] at hw
      refine layS_of_trod hsp n _ _ _ h6 fun k hk => hw k (DataW.weights_mem_each (j := i) (t := f.type) (d := (xs[i]'(by omega)).1) ?_ ?_ k hk)
      · rw [List.getElem?_map]
        simp [hi]
      · rw [List.getElem?_map, List.getElem?_eq_getElem (by omega)]
        rfl
    · rename_i m e ht
      obtain ⟨xs, k, hk, hx, hl, hxl, hf⟩ := DataW.trod_array ht h
      injection hk with hk
      subst hk
      subst hx
      refine ⟨hl, fun i hi => ?_⟩
      have h6 := hf i hi
      rw [List.getElem?_eq_getElem (by omega)] at h6
      simp only [DataW.weights, ht] at hw
      refine layS_of_trod hsp n _ _ _ h6 fun k hk => hw k (mem_weightsAll (d := (xs[i]'(by omega)).1) ?_ k hk)
      exact List.mem_map.2 ⟨_, List.getElem_mem _, rfl⟩
    · trivial
end
section
variable {P : Program} {w : World}
theorem LayS.lays : ∀ {n : Nat} {t : TypeId} {cs : List Value}, LayS P w n t cs → Lays P w n t cs
  | 0, t, cs, h => h
  | n + 1, t, cs, h => by
    unfold LayS at h
    unfold Lays
    split at h <;> rename_i ht <;> simp only [ht]
    · exact h
    · exact h
    · exact h
    · rcases h with h | ⟨a, len, cap, h1, h2, h3, _, h4⟩
      · exact .inl h
      · refine .inr ⟨a, len, cap, h1, h2, h3, fun i hi => ?_⟩
        obtain ⟨cs', h5, h6, h7⟩ := h4 i hi
        exact ⟨cs', h5, h6, h7.lays⟩
    · exact ⟨h.1, fun i f hi => (h.2 i f hi).lays⟩
    · exact ⟨h.1, fun i hi => (h.2 i hi).lays⟩
variable {n : Nat} {t : TypeId} {cs : List Value}
theorem LayS.slice {e : TypeId} (h : LayS P w n t cs) (ht : P.underlying t = some (.slice e)) : cs = [.slice none 0 0] ∨ ∃ (a : Addr) (len cap : Nat), cs = [.slice (some a) len cap] ∧ len ≤ cap ∧ cap ≤ maxLen ∧ cap * P.bytesOf e ≤ reachBytes ∧
    ∀ i, i < len → ∃ cs' : List Value, cs'.length = P.cellsOf e ∧ (∀ j u, cs'[j]? = some u → w.cell? (a.add (i * P.cellsOf e + j)) = some u) ∧ ∃ k, LayS P w k e cs' := by
  cases n with
  | zero => exact h.elim
  | succ n =>
    unfold LayS at h
    rw [ht] at h
    rcases h with h | ⟨a, len, cap, h1, h2, h3, h4, h5⟩
    · exact .inl h
    · refine .inr ⟨a, len, cap, h1, h2, h3, h4, fun i hi => ?_⟩
      obtain ⟨cs', g1, g2, g3⟩ := h5 i hi
      exact ⟨cs', g1, g2, n, g3⟩
theorem LayS.field {fs : Array Field} (h : LayS P w n t cs) (ht : P.underlying t = some (.struct fs)) : cs.length = P.cellsOf t ∧ ∀ (i : Nat) (f : Field), fs[i]? = some f → ∃ m, LayS P w m f.type ((cs.drop f.offset).take (P.cellsOf f.type)) := by
  cases n with
  | zero => exact h.elim
  | succ n =>
    unfold LayS at h
    rw [ht] at h
    exact ⟨h.1, fun i f hi => ⟨n, h.2 i f hi⟩⟩
theorem LayS.fieldAt {fs : Array Field} (h : LayS P w n t cs) (ht : P.underlying t = some (.struct fs)) (i T off : Nat) {sz : Nat} (hf : (fs[i]?).map (fun f => (f.type, f.offset)) = some (T, off)) (hc : P.cellsOf T = sz) : ∃ m, LayS P w m T ((cs.drop off).take sz) := by
  cases hi : fs[i]? with
  | none => rw [hi] at hf; cases hf
  | some f =>
    rw [hi] at hf
    simp only [Option.map_some, Option.some.injEq, Prod.mk.injEq] at hf
    obtain ⟨rfl, rfl⟩ := hf
    rw [← hc]
    exact (h.field ht).2 i f hi
/-- a byte slice, and how long it may be -/
theorem LayS.byteRow {e : TypeId} (h : LayS P w n t cs) (ht : P.underlying t = some (.slice e)) (he : P.underlying e = some (.int .u8)) (h1 : P.cellsOf e = 1) (hb : P.bytesOf e = 1) :
    ∃ (A : Option Addr) (l : List UInt8) (c : Nat), cs = [.slice A l.length c] ∧ l.length ≤ c ∧ Bs w A l ∧ c ≤ reachBytes := by
  obtain ⟨A, l, c, h2, h3, h4⟩ := h.lays.byteRow ht he h1
  refine ⟨A, l, c, h2, h3, h4, ?_⟩
  rcases h.slice ht with h5 | ⟨a, len, cap, h5, _, _, h6, _⟩
  · rw [h2] at h5
    simp at h5
    omega
  · rw [h2] at h5
    simp at h5
    rw [hb] at h6
    omega
variable {M : Type} {E : M → List Value} {s : Nat}
theorem LayS.rowOf {e : TypeId} (h : LayS P w n t cs) (ht : P.underlying t = some (.slice e)) (he : P.cellsOf e = s) (h0 : 0 < s) (F : M → Prop)
    (hr : ∀ k cs', LayS P w k e cs' → cs'.length = s → ∃ m, cs' = E m ∧ F m) :
    ∃ (A : Option Addr) (ms : List M) (c : Nat), cs = [.slice A ms.length c] ∧ ms.length ≤ c ∧ Cs w A (ms.flatMap E) ∧ (∀ m ∈ ms, (E m).length = s) ∧ ∀ m ∈ ms, F m := by
  rcases h.slice ht with rfl | ⟨a, len, cap, rfl, h2, h3, _, h4⟩
  · exact ⟨none, [], 0, rfl, Nat.le_refl _, Cs.nil _ _, by simp, by simp⟩
  · obtain ⟨ms, h5, h6⟩ := rows_of (E := fun (m : M) cs' => cs' = E m ∧ cs'.length = s ∧ F m) (w := w) (a := a) (s := s) len 0 fun i hi => by
      obtain ⟨cs', h7, h8, j, h9⟩ := h4 i hi
      rw [he] at h7 h8
      obtain ⟨m, hm, hF⟩ := hr j cs' h9 h7
      exact ⟨cs', by simpa using h8, m, hm, h7, hF⟩
    have hlen : ∀ m ∈ ms, (E m).length = s := by
      intro m hm
      obtain ⟨i, hi⟩ := List.getElem?_of_mem hm
      obtain ⟨_, _, rfl, hl, _⟩ := h6 i m hi
      exact hl
    refine ⟨some a, ms, cap, by rw [h5], by omega, fun i v hi => ?_, hlen, fun m hm => ?_⟩
    · obtain ⟨k, m, j, h7, h8, rfl, h9⟩ := row_find h0 ms hlen i v hi
      obtain ⟨cs', h10, rfl, _⟩ := h6 k m h7
      refine ⟨a, rfl, ?_⟩
      have := h10 j v h9
      simpa using this
    · obtain ⟨i, hi⟩ := List.getElem?_of_mem hm
      obtain ⟨_, _, _, _, hr⟩ := h6 i m hi
      exact hr
end
theorem lookH_all {E : World → World → Prop} : ∀ (l : List (Nat × Fact)), (∀ x ∈ l, ∀ g v a b, E a b → x.2 g v a → x.2 g v b) → ∀ k Φ, lookH l k = some Φ → ∀ g v a b, E a b → Φ g v a → Φ g v b
  | [], _, k, Φ, h => by cases h
  | (j, Ψ) :: r, hl, k, Φ, h => by
    unfold lookH at h
    split at h
    · injection h with h
      subst h
      exact hl _ (List.mem_cons_self ..)
    · exact lookH_all r (fun x hx => hl x (List.mem_cons_of_mem _ hx)) k Φ h
/-- a drawn region with a variable that is made and written amid it; facts may name what an operation was given -/
theorem draw_finH {P : Program} {id : Nat} {l : List Oper} {e0 : Env} {w0 : World} {K : Env → World → Prop} (T : TypeId) (V : List Value) (m : Nat) (D : List (List Nat)) (fs : List (Nat × Fact)) (hm : P.follows .mixedOrders = true) (hD : okD l.toArray D = true) (hT : okT l.toArray D m = true)
    (hst : ∀ x ∈ fs, ∀ g v a b, Fin w0.heap.size T V a b → x.2 g v a → x.2 g v b)
    (hv : vcH P w0.heap.size (Fin w0.heap.size T V) l.toArray D (lookH fs) w0 0 (l.take m) e0 [] (Stop (fun e w => opsP P l.toArray (l.drop m) e w K) .mk)) : drawP P id l.toArray e0 w0 K :=
  draw_rgH w0.heap.size (Fin w0.heap.size T V) D (lookH fs) hm hD (fun _ _ _ h k => h.trans k) (Fin.refl _ T V) (Fin.of_more (below_drawn _ _) (Nat.le_refl _)) (fun _ h => h.below) (lookH_all fs hst) m hT (by simpa [Stop] using hv)
section
variable (P : Program) (B : Nat) (Ext : World → World → Prop) (ops : Array Oper) (D : List (List Nat)) (Phi : Nat → Option Fact) (w0 : World) (k : Nat) (e : Env) (Γ : List (Nat × (World → Prop))) (K : Env → World → Prop)
theorem hs_nil (m : Mark K) : vcH P B Ext ops D Phi w0 k [] e Γ (Stop K m) = ∀ w', Ext w0 w' → (∀ x ∈ Γ, x.2 w') → K e w' := propext Iff.rfl
theorem hs_none (o : Oper) (N : Value → List (Nat × (World → Prop)) → Prop) : stepH P B Ext D w0 k o e Γ N none = opV P B o e w0 (Stop (fun v => N v Γ) .mk) := propext Iff.rfl
theorem hs_guard (d : Option Nat) (op : Op) (t : TypeId) (p : String) (af : Array Edge) (g : Nat × Bool) (r : List Oper) :
    vcH P B Ext ops D Phi w0 k (⟨d, op, t, p, af, some g⟩ :: r) e Γ K = guardP (some g) ops e (Stop (fun e => stepH P B Ext D w0 k ⟨d, op, t, p, af, none⟩ e Γ (fun v G => vcH P B Ext ops D Phi w0 (k + 1) r (upO e d v) G K) (Phi k)) .mk) (Stop (fun e => vcH P B Ext ops D Phi w0 (k + 1) r (upO e d undef) Γ K) .mk) := h_guard P B Ext ops D Phi w0 k e Γ K d op t p af g r
end
end Go.Proofs.RV
