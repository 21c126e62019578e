/-
  A region in a line, of two frames: what turns memory late binds only what is pure.
-/
import Derived.Test.YtimhcjakpdebjaaXt
namespace Go.Proofs.RV
open Go Go.RowKit
set_option linter.unusedSimpArgs false
set_option linter.unusedVariables false
section
variable {P : Program} {Ext : World → World → Prop} {ops : Array Oper} {w0 : World}
theorem swapX {Eo Eq : World → World → Prop} (hrf : Eo w0 w0) {o q : Oper} (h : Indep ops o q) {f g : Bool} (hfg : ¬ (f = true ∧ g = true)) {e : Env} {w : World} {N : Env → World → Prop}
    (hs : stepSK P Eq ops w0 g q e w fun e w => stepSK P Eo ops w0 f o e w N) : stepSK P Eo ops w0 f o e w fun e w => stepSK P Eq ops w0 g q e w N := by
  have h' := h.symm
  have comm : ∀ a b, upO (upO e q.dst a) o.dst b = upO (upO e o.dst b) q.dst a := fun a b => upO_comm h'.dd
  unfold stepSK at *
  simp only [h.wants, h'.wants, h.exec, h'.exec, h.valE, h'.valE] at *
  by_cases wq : wants q.guard ops e = true
  · simp only [wq, if_true] at *
    by_cases wo : wants o.guard ops e = true
    · simp only [wo, if_true] at *
      cases g with
      | true =>
        cases f with
        | true => exact absurd ⟨rfl, rfl⟩ hfg
        | false =>
          simp only [if_true, Bool.false_eq_true, if_false] at *
          obtain ⟨_, _, _, vo, hvo, _⟩ := hs.exists
          refine ⟨vo, hvo, hs.mono ?_⟩
          rintro v w' ⟨h1, vo', hvo', h2⟩
          rw [valE_unique hrf hvo hvo', ← comm]
          exact ⟨h1, h2⟩
      | false =>
        cases f with
        | true =>
          simp only [if_true, Bool.false_eq_true, if_false] at *
          obtain ⟨vq, hvq, h2⟩ := hs
          refine h2.mono ?_
          rintro v w' ⟨h3, h4⟩
          refine ⟨h3, vq, hvq, ?_⟩
          rw [← comm]
          exact h4
        | false =>
          simp only [Bool.false_eq_true, if_false] at *
          obtain ⟨vq, hvq, vo, hvo, h2⟩ := hs
          refine ⟨vo, hvo, vq, hvq, ?_⟩
          rw [← comm]
          exact h2
    · simp only [wo, Bool.false_eq_true, if_false] at *
      cases g with
      | true =>
        simp only [if_true] at *
        refine hs.mono ?_
        rintro v w' ⟨h1, h2⟩
        rw [← comm]
        exact ⟨h1, h2⟩
      | false =>
        simp only [Bool.false_eq_true, if_false] at *
        obtain ⟨vq, hvq, h2⟩ := hs
        refine ⟨vq, hvq, ?_⟩
        rw [← comm]
        exact h2
  · simp only [wq, Bool.false_eq_true, if_false] at *
    by_cases wo : wants o.guard ops e = true
    · simp only [wo, if_true] at *
      cases f with
      | true =>
        simp only [if_true] at *
        refine hs.mono ?_
        rintro v w' ⟨h1, h2⟩
        rw [← comm]
        exact ⟨h1, h2⟩
      | false =>
        simp only [Bool.false_eq_true, if_false] at *
        obtain ⟨vo, hvo, h2⟩ := hs
        refine ⟨vo, hvo, ?_⟩
        rw [← comm]
        exact h2
    · simp only [wo, Bool.false_eq_true, if_false] at *
      rw [← comm]
      exact hs
def sqSX (P : Program) (Ex : Nat → World → World → Prop) (ops : Array Oper) (w0 : World) : List (Bool × Nat × Oper) → Env → World → (Env → World → Prop) → Prop
  | [], e, w, K => K e w
  | (f, i, o) :: r, e, w, K => stepSK P (Ex i) ops w0 f o e w fun e w => sqSX P Ex ops w0 r e w K
theorem sqS_consX {Ex : Nat → World → World → Prop} (f : Bool) (k : Nat) (o : Oper) (r : List (Bool × Nat × Oper)) (e : Env) (w : World) (K : Env → World → Prop) : sqSX P Ex ops w0 ((f, k, o) :: r) e w K = stepSK P (Ex k) ops w0 f o e w fun e w => sqSX P Ex ops w0 r e w K := rfl
theorem frontX {Ex : Nat → World → World → Prop} (hrf : ∀ i, Ex i w0 w0) {f : Bool} {i : Nat} {o : Oper} {post : List (Bool × Nat × Oper)} {K : Env → World → Prop} : ∀ (pre : List (Bool × Nat × Oper)), (∀ x ∈ pre, Indep ops o x.2.2 ∧ ¬ (f = true ∧ x.1 = true)) → ∀ (e : Env) (w : World),
    sqSX P Ex ops w0 (pre ++ (f, i, o) :: post) e w K → sqSX P Ex ops w0 ((f, i, o) :: (pre ++ post)) e w K
  | [], _, e, w, hs => hs
  | (g, j, q) :: pre, h, e, w, hs => by
    have h0 := h (g, j, q) (List.mem_cons_self ..)
    have hs' : stepSK P (Ex j) ops w0 g q e w fun e w => stepSK P (Ex i) ops w0 f o e w fun e w => sqSX P Ex ops w0 (pre ++ post) e w K :=
      stepS_monoK (N := fun e w => sqSX P Ex ops w0 (pre ++ (f, i, o) :: post) e w K) hs fun e w hh => frontX hrf pre (fun x hx => h x (List.mem_cons_of_mem _ hx)) e w hh
    exact swapX (hrf i) h0.1 h0.2 hs'
variable {D : List (List Nat)}
theorem any_seqX {Ex : Nat → World → World → Prop} (hrf : ∀ i, Ex i w0 w0) (hD : OkD ops D) {F : List Bool} (hF : okF D F = true) (hEx : ∀ i j, i < ops.size → j < ops.size → F.getD i false = true → F.getD j false = false → j ∉ D.getD i [] → ∀ w', Ex i w0 w' → Ex j w0 w') {n : Nat} {K : Env → World → Prop} {Q : Exit → Act → World → Prop} (hn : ∀ o ∈ ops, ∀ t, o.dst = some t → t < n) (hQ : ∀ a e w, Rep n a e → K e w → Q .normal a w) :
    ∀ (fuel : Nat) (listed : Array Bool) (a : Act) (e : Env) (w : World), listed.size = ops.size → Rep n a e → (∀ (i : Nat) (o : Oper), ops[i]? = some o → listed.getD i false = true → ∀ x ∈ D.getD i [], listed.getD x false = true) → (∀ j, j < ops.size → F.getD j false = false → listed.getD j false = false → Ex j w0 w) →
      sqSX P Ex ops w0 (rems F listed ops.toList.zipIdx) e w K → ((List.range ops.size).filter fun j => !listed.getD j false).length ≤ fuel → wpAny P .any ops Q fuel listed a w := by
  intro fuel
  induction fuel with
  | zero =>
    intro listed a e w hsz hr hsh hb hs hf
    have hall : ∀ j, j < ops.size → listed.getD j false = true := by
      intro j hj
      cases h : listed.getD j false with
      | true => rfl
      | false =>
        have : j ∈ (List.range ops.size).filter fun j => !listed.getD j false := List.mem_filter.2 ⟨List.mem_range.2 hj, by rw [h]; rfl⟩
        rw [List.eq_nil_of_length_eq_zero (Nat.le_zero.1 hf)] at this
        cases this
    have hrem : rems F listed ops.toList.zipIdx = [] := by
      unfold rems
      rw [List.filter_eq_nil_iff.2 fun x hx => ?_, List.map_nil]
      have := List.mem_zipIdx hx
      rw [hall x.2 (by simp at this; omega)]
      simp
    rw [hrem] at hs
    refine ⟨?_, hQ _ _ _ hr hs⟩
    refine List.eq_nil_iff_forall_not_mem.2 fun j hj => ?_
    obtain ⟨h1, o, ho, _⟩ := mem_ready.1 hj
    have hj' := (Array.getElem?_eq_some_iff.1 ho).1
    have h2 := hall j hj'
    simp only [Array.getD_eq_getD_getElem?, Array.getElem?_eq_getElem (hsz ▸ hj'), Option.getD_some] at h1 h2
    rw [h1] at h2
    cases h2
  | succ fuel ih =>
    intro listed a e w hsz hr hsh hb hs hf
    have same : ∀ j, j < ops.size → listed.getD j true = listed.getD j false := fun j hj => by
      simp [Array.getD_eq_getD_getElem?, Array.getElem?_eq_getElem (hsz ▸ hj)]
    refine ⟨fun hnil => ?_, fun i hi => ?_⟩
    · have key : ∀ m j (q : Oper), j ≤ m → ops[j]? = some q → listed.getD j false = true := by
        intro m
        induction m with
        | zero =>
          intro j q hj hq
          obtain rfl : j = 0 := by omega
          cases h : listed.getD 0 false with
          | true => rfl
          | false =>
            have : 0 ∈ Region.ready .any ops listed := mem_ready.2 ⟨by rw [same 0 (Array.getElem?_eq_some_iff.1 hq).1]; exact h, q, hq, fun ed hed hb => absurd (hD.lt 0 q hq ed.on (hD.bind 0 q hq ed.on (List.mem_filterMap.2 ⟨ed, by simpa using hed, by rw [if_pos hb]⟩))) (Nat.not_lt_zero _)⟩
            rw [hnil] at this
            cases this
        | succ m ihm =>
          intro j q hj hq
          by_cases hjm : j ≤ m
          · exact ihm j q hjm hq
          · cases h : listed.getD j false with
            | true => rfl
            | false =>
              have : j ∈ Region.ready .any ops listed := mem_ready.2 ⟨by rw [same j (Array.getElem?_eq_some_iff.1 hq).1]; exact h, q, hq, fun ed hed hb => by
                have h1 := hD.bind j q hq ed.on (List.mem_filterMap.2 ⟨ed, by simpa using hed, by rw [if_pos hb]⟩)
                have h2 := hD.lt j q hq ed.on h1
                have h3 := (Array.getElem?_eq_some_iff.1 hq).1
                exact ihm ed.on _ (by omega) (Array.getElem?_eq_getElem (show ed.on < ops.size by omega))⟩
              rw [hnil] at this
              cases this
      have hrem : rems F listed ops.toList.zipIdx = [] := by
        unfold rems
        rw [List.filter_eq_nil_iff.2 fun x hx => ?_, List.map_nil]
        have hx2 := List.mem_zipIdx hx
        have hlt : x.2 < ops.size := by simp at hx2; omega
        rw [key x.2 x.2 _ (Nat.le_refl _) (Array.getElem?_eq_getElem hlt)]
        simp
      rw [hrem] at hs
      exact hQ _ _ _ hr hs
    · obtain ⟨h1, o, ho, h2⟩ := mem_ready.1 hi
      have hi' := (Array.getElem?_eq_some_iff.1 ho).1
      have hLi : listed.getD i false = false := (same i hi').symm.trans h1
      have hdone : ∀ x ∈ D.getD i [], listed.getD x false = true := by
        have hb : ∀ x ∈ binding o, listed.getD x false = true := by
          intro x hx
          obtain ⟨ed, hed, hh⟩ := List.mem_filterMap.1 hx
          by_cases hb : Region.binds .any ed = true
          · rw [if_pos hb] at hh
            injection hh with hh
            subst hh
            exact h2 ed (by simpa using hed) hb
          · rw [if_neg hb] at hh
            cases hh
        intro x hx
        rcases hD.dep i o ho x hx with h3 | ⟨j, hj, hxj⟩
        · exact hb x h3
        · have hjs : j < ops.size := by
            have := hD.lt i o ho j (hD.bind i o ho j hj)
            omega
          exact hsh j _ (Array.getElem?_eq_getElem hjs) (hb j hj) x hxj
      -- the list, parted at i
      have hsplit : ops.toList.zipIdx = ops.toList.zipIdx.take i ++ (o, i) :: ops.toList.zipIdx.drop (i + 1) := by
        have hg : ops.toList.zipIdx[i]? = some (o, i) := by
          rw [List.getElem?_zipIdx]
          simp [ho]
        have hlt := (List.getElem?_eq_some_iff.1 hg).1
        conv => lhs; rw [← List.take_append_drop i ops.toList.zipIdx]
        rw [List.drop_eq_getElem_cons hlt]
        rw [(List.getElem?_eq_some_iff.1 hg).2]
      have hpre : ∀ x ∈ ops.toList.zipIdx.take i, x.2 < i ∧ ops[x.2]? = some x.1 := by
        intro x hx
        obtain ⟨k, hk⟩ := List.getElem?_of_mem hx
        rw [List.getElem?_take] at hk
        split at hk
        · rename_i hki
          rw [List.getElem?_zipIdx] at hk
          simp only [Option.map_eq_some_iff] at hk
          obtain ⟨y, hy, rfl⟩ := hk
          simp only [Nat.zero_add]
          exact ⟨hki, by simpa using hy⟩
        · cases hk
      have hpost : ∀ x ∈ ops.toList.zipIdx.drop (i + 1), x.2 ≠ i := by
        intro x hx
        obtain ⟨k, hk⟩ := List.getElem?_of_mem hx
        rw [List.getElem?_drop, List.getElem?_zipIdx] at hk
        simp only [Option.map_eq_some_iff] at hk
        obtain ⟨y, hy, rfl⟩ := hk
        simp only
        omega
      have hr1 : rems F listed ops.toList.zipIdx = rems F listed (ops.toList.zipIdx.take i) ++ (F.getD i false, i, o) :: rems F listed (ops.toList.zipIdx.drop (i + 1)) := by
        conv => lhs; rw [hsplit]
        unfold rems
        rw [List.filter_append, List.map_append, List.filter_cons_of_pos (by simp only [hLi]; rfl), List.map_cons]
      have hr2 : rems F (listed.setIfInBounds i true) ops.toList.zipIdx = rems F listed (ops.toList.zipIdx.take i) ++ rems F listed (ops.toList.zipIdx.drop (i + 1)) := by
        conv => lhs; rw [hsplit]
        rw [← rems_listed (F := F) (hsz ▸ hi') (ops.toList.zipIdx.take i) (fun x hx => by have := (hpre x hx).1; omega), ← rems_listed (F := F) (hsz ▸ hi') (ops.toList.zipIdx.drop (i + 1)) hpost]
        unfold rems
        rw [List.filter_append, List.map_append, List.filter_cons_of_neg (by simp only [set_get (hsz ▸ hi')]; simp)]
      rw [hr1] at hs
      have hs2 := frontX hrf (rems F listed (ops.toList.zipIdx.take i)) (fun x hx => by
        unfold rems at hx
        obtain ⟨y, hy, rfl⟩ := List.mem_map.1 hx
        obtain ⟨hy1, hy2⟩ := List.mem_filter.1 hy
        obtain ⟨hlt, hq⟩ := hpre y hy1
        have hyl : listed.getD y.2 false = false := by simpa using hy2
        have hnd : y.2 ∉ D.getD i [] := fun hh => by rw [hdone _ hh] at hyl; cases hyl
        have hnd2 : i ∉ D.getD y.2 [] := fun hh => by have := hD.lt y.2 _ hq i hh; omega
        refine ⟨⟨fun s hs hd => ?_, fun s hs hd => ?_, fun s hd => hD.dst i o y.2 _ ho hq (by omega) s hd, hD.sel i o ho, hD.sel y.2 _ hq⟩, fun hff => ?_⟩
        · rcases hD.read i o ho s hs y.2 _ hq hd with h5 | h5
          · exact hnd h5
          · exact hnd2 h5
        · rcases hD.read y.2 _ hq s hs i o ho hd with h5 | h5
          · exact hnd2 h5
          · exact hnd h5
        · exact hnd (okF_spec hF hff.2 hff.1 hlt)) e w hs
      rw [sqS_consX] at hs2
      rw [← hr2] at hs2
      have hlen : ((List.range ops.size).filter fun j => !(listed.setIfInBounds i true).getD j false).length ≤ fuel := by
        have hsub : ((List.range ops.size).filter fun j => !(listed.setIfInBounds i true).getD j false) = ((List.range ops.size).filter fun j => !listed.getD j false).filter (fun j => !(j == i)) := by
          rw [List.filter_filter]
          apply List.filter_congr
          intro j _
          rw [set_get (hsz ▸ hi')]
          by_cases hji : j = i
          · simp [hji]
          · simp [hji]
        have hmem : i ∈ (List.range ops.size).filter fun j => !listed.getD j false := List.mem_filter.2 ⟨List.mem_range.2 hi', by rw [hLi]; rfl⟩
        rw [hsub]
        have : (((List.range ops.size).filter fun j => !listed.getD j false).filter fun j => !(j == i)).length < ((List.range ops.size).filter fun j => !listed.getD j false).length := by
          refine List.length_filter_lt_length_iff_exists.2 ⟨i, hmem, by simp⟩
        omega
      have hsh' : ∀ (j : Nat) (q : Oper), ops[j]? = some q → (listed.setIfInBounds i true).getD j false = true → ∀ x ∈ D.getD j [], (listed.setIfInBounds i true).getD x false = true := by
        intro j q hq hj x hx
        rw [set_get (hsz ▸ hi')] at hj ⊢
        split
        · rfl
        · split at hj
          · rename_i hji
            subst hji
            exact hdone x hx
          · exact hsh j q hq hj x hx
      have hnd := hn o (by rw [Array.mem_iff_getElem?]; exact ⟨i, ho⟩)
      have hlj : ∀ j, (listed.setIfInBounds i true).getD j false = false → listed.getD j false = false := by
        intro j hj
        rw [set_get (hsz ▸ hi')] at hj
        split at hj
        · cases hj
        · exact hj
      have next : ∀ v w', (∀ j, j < ops.size → F.getD j false = false → (listed.setIfInBounds i true).getD j false = false → Ex j w0 w') → sqSX P Ex ops w0 (rems F (listed.setIfInBounds i true) ops.toList.zipIdx) (upO e o.dst v) w' K → wpAny P .any ops Q fuel (listed.setIfInBounds i true) (a.put o.dst v) w' :=
        fun v w' hb' hh => ih _ _ _ _ (by simpa using hsz) (hr.put _ hnd v) hsh' hb' hh hlen
      have hb1 : ∀ j, j < ops.size → F.getD j false = false → (listed.setIfInBounds i true).getD j false = false → Ex j w0 w := fun j h5 h6 h7 => hb j h5 h6 (hlj j h7)
      unfold wpOp
      simp only [ho]
      rw [wanted_eq hr]
      unfold stepSK at hs2
      by_cases hw : wants o.guard ops e = true
      · rw [if_pos hw] at hs2 ⊢
        refine .inl ?_
        by_cases hff : F.getD i false = true
        · rw [if_pos hff] at hs2
          exact op_wp hr hs2 fun v w' ⟨h3, h4⟩ => next v w' (fun j h5 h6 h7 => hEx i j hi' h5 hff h6 (fun hm => by have h8 := hlj j h7; rw [hdone j hm] at h8; cases h8) w' h3) h4
        · rw [if_neg hff] at hs2
          obtain ⟨v, hval, h4⟩ := hs2
          refine op_wp (K := fun u w' => u = v ∧ w' = w) hr ?_ ?_
          · rw [hval w (hb i hi' (by simpa using hff) hLi)]
            exact ⟨rfl, rfl⟩
          · rintro u w' ⟨rfl, rfl⟩
            exact next u w' hb1 h4
      · rw [if_neg hw] at hs2 ⊢
        exact next undef w hb1 hs2
end
/-- one operation, computed: 0 quiet, 1 turns memory, 2 reads what the frame keeps, 3 turns memory late (the weaker frame), 4 quiet in the weaker frame -/
def sxI (f : Nat) (P : Program) (B B0 : Nat) (Ext Ext0 : World → World → Prop) (w0 : World) (o : Oper) (e : Env) (w : World) (N : Value → World → Prop) (_ : Mark N) : Prop :=
  match f with
  | 0 => opV P B o e w0 fun v => N v w
  | 1 => opP P o e w fun v w' => Ext w0 w' ∧ N v w'
  | 2 => readK P Ext o e w0 fun v => N v w
  | 3 => opP P o e w fun v w' => Ext0 w0 w' ∧ N v w'
  | _ => opV P B0 o e w0 fun v => N v w
def sxP (P : Program) (B B0 : Nat) (Ext Ext0 : World → World → Prop) (ops : Array Oper) (w0 : World) : List Oper → List Nat → Env → World → (Env → World → Prop) → Prop
  | [], _, e, w, K => K e w
  | o :: r, fs, e, w, K => guardP o.guard ops e
      (fun e => sxI (fs.headD 0) P B B0 Ext Ext0 w0 o e w (fun v w' => sxP P B B0 Ext Ext0 ops w0 r fs.tail (upO e o.dst v) w' K) .mk)
      (fun e => sxP P B B0 Ext Ext0 ops w0 r fs.tail (upO e o.dst undef) w K)
def turns (f : Nat) : Bool := f == 1 || f == 3
def late (f : Nat) : Bool := decide (2 < f)
def exOf (Ext Ext0 : World → World → Prop) (F : List Nat) (i : Nat) : World → World → Prop := if late (F.getD i 0) = true then Ext0 else Ext
theorem sx_sound {P : Program} {B B0 : Nat} {Ext Ext0 : World → World → Prop} {ops : Array Oper} {w0 : World} {K : Env → World → Prop} {F : List Nat} (hBe : ∀ w', Ext w0 w' → Below B w0 w') (hBe0 : ∀ w', Ext0 w0 w' → Below B0 w0 w') : ∀ (l : List Oper) (k : Nat) (fs : List Nat) (e : Env) (w : World), (∀ j, fs.getD j 0 = F.getD (k + j) 0) → sxP P B B0 Ext Ext0 ops w0 l fs e w K →
    sqSX P (exOf Ext Ext0 F) ops w0 ((l.zipIdx k).map fun x => ((F.map turns).getD x.2 false, x.2, x.1)) e w K
  | [], k, fs, e, w, hfs, h => h
  | o :: r, k, fs, e, w, hfs, h => by
    have h0 : fs.headD 0 = F.getD k 0 := by
      have := hfs 0
      rw [Nat.add_zero] at this
      rw [← this]
      cases fs <;> rfl
    have ht : ∀ j, fs.tail.getD j 0 = F.getD (k + 1 + j) 0 := fun j => by
      have := hfs (j + 1)
      rw [show k + (j + 1) = k + 1 + j by omega] at this
      rw [← this]
      cases fs <;> simp
    have hF : (F.map turns).getD k false = turns (F.getD k 0) := by
      rw [List.getD_eq_getElem?_getD, List.getD_eq_getElem?_getD, List.getElem?_map]
      cases F[k]? <;> rfl
    unfold sxP at h
    rw [guard_ite] at h
    rw [List.zipIdx_cons, List.map_cons, sqS_consX]
    unfold stepSK
    by_cases hw : wants o.guard ops e = true
    · rw [if_pos hw] at h ⊢
      unfold exOf
      simp only [hF]
      rw [← h0]
      generalize fs.headD 0 = f at h ⊢
      unfold sxI at h
      split at h
      · rw [if_neg (by simp [turns]), if_neg (by simp [late])]
        obtain ⟨v, h1, h2⟩ := opV_sound h
        exact ⟨v, fun w1 hx => h1 w1 (hBe w1 hx), sx_sound hBe hBe0 r (k + 1) fs.tail _ _ ht h2⟩
      · rw [if_pos (by simp [turns]), if_neg (by simp [late])]
        exact (op_sound h).mono fun v w' ⟨h1, h2⟩ => ⟨h1, sx_sound hBe hBe0 r (k + 1) fs.tail _ _ ht h2⟩
      · rw [if_neg (by simp [turns]), if_neg (by simp [late])]
        obtain ⟨v, h1, h2⟩ := readK_sound h
        exact ⟨v, h1, sx_sound hBe hBe0 r (k + 1) fs.tail _ _ ht h2⟩
      · rw [if_pos (by simp [turns]), if_pos (by simp [late])]
        exact (op_sound h).mono fun v w' ⟨h1, h2⟩ => ⟨h1, sx_sound hBe hBe0 r (k + 1) fs.tail _ _ ht h2⟩
      · rename_i n0 n1 n2 n3
        have a0 : f ≠ 0 := fun h => n0 h
        have a1 : f ≠ 1 := fun h => n1 h
        have a2 : f ≠ 2 := fun h => n2 h
        have a3 : f ≠ 3 := fun h => n3 h
        rw [if_neg (by simp [turns, a1, a3]), if_pos (by simp [late]; omega)]
        obtain ⟨v, h1, h2⟩ := opV_sound h
        exact ⟨v, fun w1 hx => h1 w1 (hBe0 w1 hx), sx_sound hBe hBe0 r (k + 1) fs.tail _ _ ht h2⟩
    · rw [if_neg hw] at h ⊢
      exact sx_sound hBe hBe0 r (k + 1) fs.tail _ _ ht h
/-- what turns memory late hangs on all that reads within the frame -/
def okX (n : Nat) (D : List (List Nat)) (F : List Nat) : Bool := (List.range n).all fun i => !turns (F.getD i 0) || !late (F.getD i 0) || (List.range n).all fun j => turns (F.getD j 0) || late (F.getD j 0) || (D.getD i []).contains j
theorem draw_lineX {P : Program} {id : Nat} {l : List Oper} {e0 : Env} {w0 : World} {K : Env → World → Prop} (B B0 : Nat) (Ext Ext0 : World → World → Prop) (F : List Nat) (D : List (List Nat)) (hm : P.follows .mixedOrders = true) (hD : okD l.toArray D = true) (hF : okF D (F.map turns) = true) (hX : okX l.length D F = true)
    (hrf : Ext w0 w0) (hdr : ∀ w', More w0 w' → Ext w0 w') (h01 : ∀ w', Ext w0 w' → Ext0 w0 w') (hBe : ∀ w', Ext w0 w' → Below B w0 w') (hBe0 : ∀ w', Ext0 w0 w' → Below B0 w0 w')
    (hv : ∀ w1, More w0 w1 → sxP P B B0 Ext Ext0 l.toArray w0 l F e0 w1 (Stop K .mk)) : drawP P id l.toArray e0 w0 K := by
  intro n a hd hr
  refine wp_region_any hm ?_
  have hex : ∀ w', Ext w0 w' → ∀ i, exOf Ext Ext0 F i w0 w' := fun w' h i => by
    unfold exOf
    split
    · exact h01 _ h
    · exact h
  have hFt : ∀ i, (F.map turns).getD i false = turns (F.getD i 0) := fun i => by
    rw [List.getD_eq_getElem?_getD, List.getD_eq_getElem?_getD, List.getElem?_map]
    cases F[i]? <;> rfl
  refine any_seqX (Ex := exOf Ext Ext0 F) (w0 := w0) (hex _ hrf) (okD_spec hD) hF (fun i j hi hj h1 h2 h3 w' h4 => ?_) hd (fun a e w hr hk => ⟨e, hr, rfl, hk⟩) l.toArray.size _ a e0 _ (by simp) hr ?_ (fun j _ _ _ => hex _ (hdr _ (below_drawn _ _)) j) ?_ ?_
  · rw [hFt] at h1 h2
    unfold exOf at h4
    by_cases hl : late (F.getD i 0) = true
    · rw [if_pos hl] at h4
      unfold okX at hX
      simp only [List.all_eq_true, List.mem_range, Bool.or_eq_true, Bool.not_eq_true', List.contains_iff_mem] at hX
      have h5 := hX i (by simpa using hi)
      rcases h5 with (h5 | h5) | h5
      · rw [h1] at h5; cases h5
      · rw [hl] at h5; cases h5
      · rcases h5 j (by simpa using hj) with (h6 | h6) | h6
        · rw [h2] at h6; cases h6
        · unfold exOf
          rw [if_pos h6]
          exact h4
        · exact absurd h6 h3
    · rw [if_neg hl] at h4
      exact hex _ h4 j
  · intro i o ho hi
    simp [Array.getD_eq_getD_getElem?, Array.getElem?_replicate] at hi
    split at hi <;> simp at hi
  · have h1 := sx_sound (F := F) hBe hBe0 l 0 F e0 _ (fun j => by rw [Nat.zero_add]) (hv _ (below_drawn _ _))
    have h2 : rems (F.map turns) (Array.replicate l.toArray.size false) l.toArray.toList.zipIdx = (l.zipIdx 0).map fun x => ((F.map turns).getD x.2 false, x.2, x.1) := by
      unfold rems
      rw [List.filter_eq_self.2 fun x _ => ?_]
      simp [Array.getD_eq_getD_getElem?, Array.getElem?_replicate]
      split <;> rfl
    rw [h2]
    exact h1
  · exact Nat.le_trans (List.length_filter_le _ _) (by simp)
section
variable (P : Program) (B B0 : Nat) (Ext Ext0 : World → World → Prop) (ops : Array Oper) (w0 : World) (e : Env) (w : World) (K : Env → World → Prop)
theorem sx_nil (fs : List Nat) (m : Mark K) : sxP P B B0 Ext Ext0 ops w0 [] fs e w (Stop K m) = K e w := propext Iff.rfl
theorem sx_cons (d : Option Nat) (op : Op) (t : TypeId) (p : String) (af : Array Edge) (r : List Oper) (f : Nat) (fs : List Nat) :
    sxP P B B0 Ext Ext0 ops w0 (⟨d, op, t, p, af, none⟩ :: r) (f :: fs) e w K = sxI f P B B0 Ext Ext0 w0 ⟨d, op, t, p, af, none⟩ e w (fun v w' => sxP P B B0 Ext Ext0 ops w0 r fs (upO e d v) w' K) .mk := by
  conv => lhs; unfold sxP
  rfl
theorem sx_zero (o : Oper) (N : Value → World → Prop) (m : Mark N) : sxI 0 P B B0 Ext Ext0 w0 o e w N m = opV P B o e w0 (Stop (fun v => N v w) .mk) := propext Iff.rfl
theorem sx_one (o : Oper) (N : Value → World → Prop) (m : Mark N) : sxI 1 P B B0 Ext Ext0 w0 o e w N m = opP P o e w (Stop (fun v w' => Ext w0 w' ∧ N v w') .mk) := propext Iff.rfl
theorem sx_two (o : Oper) (N : Value → World → Prop) (m : Mark N) : sxI 2 P B B0 Ext Ext0 w0 o e w N m = readK P Ext o e w0 (Stop (fun v => N v w) .mk) := propext Iff.rfl
theorem sx_three (o : Oper) (N : Value → World → Prop) (m : Mark N) : sxI 3 P B B0 Ext Ext0 w0 o e w N m = opP P o e w (Stop (fun v w' => Ext0 w0 w' ∧ N v w') .mk) := propext Iff.rfl
theorem sx_four (o : Oper) (N : Value → World → Prop) (m : Mark N) : sxI 4 P B B0 Ext Ext0 w0 o e w N m = opV P B0 o e w0 (Stop (fun v => N v w) .mk) := propext Iff.rfl
end
end Go.Proofs.RV
