/-
  A region whose order the tape draws, where all that turns memory stands in one line, and from m on each operation runs behind all ahead of it: the frame binds only ahead of m.
-/
import Derived.Test.YtimhcjakpdebjaaXt
namespace Go.Proofs.RV
open Go Go.RowKit
set_option linter.unusedSimpArgs false
set_option linter.unusedVariables false
section
variable {P : Program} {Ext : World → World → Prop} {ops : Array Oper} {w0 : World} {D : List (List Nat)}
theorem any_seqKM {m : Nat} (hrf : Ext w0 w0) (hD : OkD ops D) {F : List Bool} (hF : okF D F = true) (hT : ∀ (i : Nat) (o : Oper), ops[i]? = some o → m ≤ i → ∀ j, j < i → j ∈ D.getD i []) (hm : m ≤ ops.size) {n : Nat} {K : Env → World → Prop} {Q : Exit → Act → World → Prop} (hn : ∀ o ∈ ops, ∀ t, o.dst = some t → t < n) (hQ : ∀ a e w, Rep n a e → K e w → Q .normal a w) :
    ∀ (fuel : Nat) (listed : Array Bool) (a : Act) (e : Env) (w : World), listed.size = ops.size → Rep n a e → (∀ (i : Nat) (o : Oper), ops[i]? = some o → listed.getD i false = true → ∀ x ∈ D.getD i [], listed.getD x false = true) → Ext w0 w → (∀ j, m ≤ j → listed.getD j false = false) →
      sqSK P Ext ops w0 (rems F listed (ops.toList.zipIdx.take m)) e w (fun e w => opsP P ops (ops.toList.drop m) e w K) → ((List.range ops.size).filter fun j => !listed.getD j false).length ≤ fuel → wpAny P .any ops Q fuel listed a w := by
  have tl : ∀ (fuel : Nat) (listed : Array Bool) (a : Act) (e : Env) (w : World), listed.size = ops.size → Rep n a e → (∀ j, m ≤ j → listed.getD j false = false) →
      sqSK P Ext ops w0 (rems F listed (ops.toList.zipIdx.take m)) e w (fun e w => opsP P ops (ops.toList.drop m) e w K) → ((List.range ops.size).filter fun j => !listed.getD j false).length ≤ fuel → (∀ (j : Nat) (q : Oper), j < m → ops[j]? = some q → listed.getD j false = true) → wpAny P .any ops Q fuel listed a w := by
    intro fuel listed a e w hsz hr hLm hs hf hpre
    have hrem : rems F listed (ops.toList.zipIdx.take m) = [] := by
      unfold rems
      rw [List.filter_eq_nil_iff.2 fun x hx => ?_, List.map_nil]
      obtain ⟨k, hk⟩ := List.getElem?_of_mem hx
      rw [List.getElem?_take] at hk
      split at hk
      · rename_i hkm
        rw [List.getElem?_zipIdx] at hk
        simp only [Option.map_eq_some_iff] at hk
        obtain ⟨y, hy, rfl⟩ := hk
        rw [hpre (0 + k) y (by omega) (by simpa using hy)]
        simp
      · cases hk
    rw [hrem] at hs
    have hmn : ops.size - m ≤ fuel := by
      refine Nat.le_trans ?_ hf
      have : ((List.range ops.size).drop m).length ≤ ((List.range ops.size).filter fun j => !listed.getD j false).length := by
        refine (List.Sublist.length_le ?_)
        have h1 : (List.range ops.size).drop m = ((List.range ops.size).drop m).filter fun j => !listed.getD j false := by
          refine (List.filter_eq_self.2 fun j hj => ?_).symm
          obtain ⟨i, hi, hij⟩ := List.mem_iff_getElem.1 hj
          simp at hij
          rw [hLm j (by omega)]
          rfl
        rw [h1]
        exact (List.drop_sublist _ _).filter _
      simpa using this
    exact tail_any hD hT hn hQ (ops.toList.drop m) m fuel listed a e w (Nat.le_refl _) (fun j => by simp) hsz (fun j hj => by
      rcases Nat.lt_or_ge j m with h1 | h1
      · rw [hpre j _ h1 (Array.getElem?_eq_getElem hj)]; simp [h1]
      · rw [hLm j h1]; simp; omega) (by simp; omega) (by simpa using hmn) hr hs
  intro fuel
  induction fuel with
  | zero =>
    intro listed a e w hsz hr hsh hb hLm hs hf
    have hall : ∀ j, j < ops.size → listed.getD j false = true := by
      intro j hj
      cases h : listed.getD j false with
      | true => rfl
      | false =>
        have : j ∈ (List.range ops.size).filter fun j => !listed.getD j false := List.mem_filter.2 ⟨List.mem_range.2 hj, by rw [h]; rfl⟩
        rw [List.eq_nil_of_length_eq_zero (Nat.le_zero.1 hf)] at this
        cases this
    exact tl 0 listed a e w hsz hr hLm hs hf fun j q _ hq => hall j (Array.getElem?_eq_some_iff.1 hq).1
  | succ fuel ih =>
    intro listed a e w hsz hr hsh hb hLm hs hf
    by_cases hpre : ∀ (j : Nat) (q : Oper), j < m → ops[j]? = some q → listed.getD j false = true
    · exact tl (fuel + 1) listed a e w hsz hr hLm hs hf hpre
    have same : ∀ j, j < ops.size → listed.getD j true = listed.getD j false := fun j hj => by
      simp [Array.getD_eq_getD_getElem?, Array.getElem?_eq_getElem (hsz ▸ hj)]
    refine ⟨fun hnil => ?_, fun i hi => ?_⟩
    · refine absurd (fun j q _ hq => ?_) hpre
      have key : ∀ M j (q : Oper), j ≤ M → ops[j]? = some q → listed.getD j false = true := by
        intro M
        induction M with
        | zero =>
          intro j q hj hq
          obtain rfl : j = 0 := by omega
          cases h : listed.getD 0 false with
          | true => rfl
          | false =>
            have : 0 ∈ Region.ready .any ops listed := mem_ready.2 ⟨by rw [same 0 (Array.getElem?_eq_some_iff.1 hq).1]; exact h, q, hq, fun ed hed hb => absurd (hD.lt 0 q hq ed.on (hD.bind 0 q hq ed.on (List.mem_filterMap.2 ⟨ed, by simpa using hed, by rw [if_pos hb]⟩))) (Nat.not_lt_zero _)⟩
            rw [hnil] at this
            cases this
        | succ M ihm =>
          intro j q hj hq
          by_cases hjm : j ≤ M
          · exact ihm j q hjm hq
          · cases h : listed.getD j false with
            | true => rfl
            | false =>
              have : j ∈ Region.ready .any ops listed := mem_ready.2 ⟨by rw [same j (Array.getElem?_eq_some_iff.1 hq).1]; exact h, q, hq, fun ed hed hb => by
                have h1 := hD.bind j q hq ed.on (List.mem_filterMap.2 ⟨ed, by simpa using hed, by rw [if_pos hb]⟩)
                have h2 := hD.lt j q hq ed.on h1
                have h3 := (Array.getElem?_eq_some_iff.1 hq).1
                exact ihm ed.on _ (by omega) (Array.getElem?_eq_getElem (show ed.on < ops.size by omega))⟩
              rw [hnil] at this
              cases this
      exact key j j q (Nat.le_refl _) hq
    · obtain ⟨h1, o, ho, h2⟩ := mem_ready.1 hi
      have hi' := (Array.getElem?_eq_some_iff.1 ho).1
      have hLi : listed.getD i false = false := (same i hi').symm.trans h1
      have hdone : ∀ x ∈ D.getD i [], listed.getD x false = true := by
        have hb : ∀ x ∈ binding o, listed.getD x false = true := by
          intro x hx
          obtain ⟨ed, hed, hh⟩ := List.mem_filterMap.1 hx
          by_cases hb : Region.binds .any ed = true
          · rw [if_pos hb] at hh
            injection hh with hh
            subst hh
            exact h2 ed (by simpa using hed) hb
          · rw [if_neg hb] at hh
            cases hh
        intro x hx
        rcases hD.dep i o ho x hx with h3 | ⟨j, hj, hxj⟩
        · exact hb x h3
        · have hjs : j < ops.size := by
            have := hD.lt i o ho j (hD.bind i o ho j hj)
            omega
          exact hsh j _ (Array.getElem?_eq_getElem hjs) (hb j hj) x hxj
      have him : i < m := by
        rcases Nat.lt_or_ge i m with h5 | h5
        · exact h5
        · exact absurd (fun j q hj hq => hdone j (hT i o ho h5 j (by omega))) hpre
      -- the list, parted at i
      obtain ⟨Z, hZ⟩ : ∃ Z, ops.toList.zipIdx.take m = Z := ⟨_, rfl⟩
      have hZi : ∀ (k : Nat) (x : Oper × Nat), Z[k]? = some x → x.2 = k ∧ ops[k]? = some x.1 := by
        intro k x hk
        rw [← hZ, List.getElem?_take] at hk
        split at hk
        · rw [List.getElem?_zipIdx] at hk
          simp only [Option.map_eq_some_iff] at hk
          obtain ⟨y, hy, rfl⟩ := hk
          exact ⟨by simp, by simpa using hy⟩
        · cases hk
      rw [hZ] at hs
      have hsplit : Z = Z.take i ++ (o, i) :: Z.drop (i + 1) := by
        have hg : Z[i]? = some (o, i) := by
          rw [← hZ, List.getElem?_take, if_pos him, List.getElem?_zipIdx]
          simp [ho]
        have hlt := (List.getElem?_eq_some_iff.1 hg).1
        conv => lhs; rw [← List.take_append_drop i Z]
        rw [List.drop_eq_getElem_cons hlt]
        rw [(List.getElem?_eq_some_iff.1 hg).2]
      have hpre2 : ∀ x ∈ Z.take i, x.2 < i ∧ ops[x.2]? = some x.1 := by
        intro x hx
        obtain ⟨k, hk⟩ := List.getElem?_of_mem hx
        rw [List.getElem?_take] at hk
        split at hk
        · rename_i hki
          obtain ⟨h5, h6⟩ := hZi k x hk
          rw [h5]
          exact ⟨hki, h6⟩
        · cases hk
      have hpost : ∀ x ∈ Z.drop (i + 1), x.2 ≠ i := by
        intro x hx
        obtain ⟨k, hk⟩ := List.getElem?_of_mem hx
        rw [List.getElem?_drop] at hk
        have := (hZi _ x hk).1
        omega
      have hr1 : rems F listed Z = rems F listed (Z.take i) ++ (F.getD i false, i, o) :: rems F listed (Z.drop (i + 1)) := by
        conv => lhs; rw [hsplit]
        unfold rems
        rw [List.filter_append, List.map_append, List.filter_cons_of_pos (by simp only [hLi]; rfl), List.map_cons]
      have hr2 : rems F (listed.setIfInBounds i true) Z = rems F listed (Z.take i) ++ rems F listed (Z.drop (i + 1)) := by
        conv => lhs; rw [hsplit]
        rw [← rems_listed (F := F) (hsz ▸ hi') (Z.take i) (fun x hx => by have := (hpre2 x hx).1; omega), ← rems_listed (F := F) (hsz ▸ hi') (Z.drop (i + 1)) hpost]
        unfold rems
        rw [List.filter_append, List.map_append, List.filter_cons_of_neg (by simp only [set_get (hsz ▸ hi')]; simp)]
      rw [hr1] at hs
      have hs2 := frontK hrf (rems F listed (Z.take i)) (fun x hx => by
        unfold rems at hx
        obtain ⟨y, hy, rfl⟩ := List.mem_map.1 hx
        obtain ⟨hy1, hy2⟩ := List.mem_filter.1 hy
        obtain ⟨hlt, hq⟩ := hpre2 y hy1
        have hyl : listed.getD y.2 false = false := by simpa using hy2
        have hnd : y.2 ∉ D.getD i [] := fun hh => by rw [hdone _ hh] at hyl; cases hyl
        have hnd2 : i ∉ D.getD y.2 [] := fun hh => by have := hD.lt y.2 _ hq i hh; omega
        refine ⟨⟨fun s hs hd => ?_, fun s hs hd => ?_, fun s hd => hD.dst i o y.2 _ ho hq (by omega) s hd, hD.sel i o ho, hD.sel y.2 _ hq⟩, fun hff => ?_⟩
        · rcases hD.read i o ho s hs y.2 _ hq hd with h5 | h5
          · exact hnd h5
          · exact hnd2 h5
        · rcases hD.read y.2 _ hq s hs i o ho hd with h5 | h5
          · exact hnd2 h5
          · exact hnd h5
        · exact hnd (okF_spec hF hff.2 hff.1 hlt)) e w hs
      rw [sqS_consK] at hs2
      rw [← hr2] at hs2
      have hlen : ((List.range ops.size).filter fun j => !(listed.setIfInBounds i true).getD j false).length ≤ fuel := by
        have hsub : ((List.range ops.size).filter fun j => !(listed.setIfInBounds i true).getD j false) = ((List.range ops.size).filter fun j => !listed.getD j false).filter (fun j => !(j == i)) := by
          rw [List.filter_filter]
          apply List.filter_congr
          intro j _
          rw [set_get (hsz ▸ hi')]
          by_cases hji : j = i
          · simp [hji]
          · simp [hji]
        have hmem : i ∈ (List.range ops.size).filter fun j => !listed.getD j false := List.mem_filter.2 ⟨List.mem_range.2 hi', by rw [hLi]; rfl⟩
        rw [hsub]
        have : (((List.range ops.size).filter fun j => !listed.getD j false).filter fun j => !(j == i)).length < ((List.range ops.size).filter fun j => !listed.getD j false).length := by
          refine List.length_filter_lt_length_iff_exists.2 ⟨i, hmem, by simp⟩
        omega
      have hsh' : ∀ (j : Nat) (q : Oper), ops[j]? = some q → (listed.setIfInBounds i true).getD j false = true → ∀ x ∈ D.getD j [], (listed.setIfInBounds i true).getD x false = true := by
        intro j q hq hj x hx
        rw [set_get (hsz ▸ hi')] at hj ⊢
        split
        · rfl
        · split at hj
          · rename_i hji
            subst hji
            exact hdone x hx
          · exact hsh j q hq hj x hx
      have hnd := hn o (by rw [Array.mem_iff_getElem?]; exact ⟨i, ho⟩)
      have hLm' : ∀ j, m ≤ j → (listed.setIfInBounds i true).getD j false = false := by
        intro j hj
        rw [set_get (hsz ▸ hi')]
        split
        · omega
        · exact hLm j hj
      rw [← hZ] at hs2
      have next : ∀ v w', Ext w0 w' → sqSK P Ext ops w0 (rems F (listed.setIfInBounds i true) (ops.toList.zipIdx.take m)) (upO e o.dst v) w' (fun e w => opsP P ops (ops.toList.drop m) e w K) → wpAny P .any ops Q fuel (listed.setIfInBounds i true) (a.put o.dst v) w' :=
        fun v w' hb' hh => ih _ _ _ _ (by simpa using hsz) (hr.put _ hnd v) hsh' hb' hLm' hh hlen
      unfold wpOp
      simp only [ho]
      rw [wanted_eq hr]
      unfold stepSK at hs2
      by_cases hw : wants o.guard ops e = true
      · rw [if_pos hw] at hs2 ⊢
        refine .inl ?_
        by_cases hff : F.getD i false = true
        · rw [if_pos hff] at hs2
          exact op_wp hr hs2 fun v w' ⟨h3, h4⟩ => next v w' h3 h4
        · rw [if_neg hff] at hs2
          obtain ⟨v, hval, h4⟩ := hs2
          refine op_wp (K := fun u w' => u = v ∧ w' = w) hr ?_ ?_
          · rw [hval w hb]
            exact ⟨rfl, rfl⟩
          · rintro u w' ⟨rfl, rfl⟩
            exact next u w' hb h4
      · rw [if_neg hw] at hs2 ⊢
        exact next undef w hb hs2
end
theorem draw_lineM {P : Program} {id : Nat} {l : List Oper} {e0 : Env} {w0 : World} {K : Env → World → Prop} (B : Nat) (Ext : World → World → Prop) (m : Nat) (F : List Nat) (D : List (List Nat)) (hm : P.follows .mixedOrders = true) (hD : okD l.toArray D = true) (hF : okF D (F.map (· == 1)) = true) (hT : okT l.toArray D m = true)
    (hrf : Ext w0 w0) (hdr : ∀ w', More w0 w' → Ext w0 w') (hBe : ∀ w', Ext w0 w' → Below B w0 w')
    (hv : ∀ w1, More w0 w1 → skP P B Ext l.toArray w0 (l.take m) F e0 w1 (Stop (fun e w => opsP P l.toArray (l.drop m) e w K) .mk)) : drawP P id l.toArray e0 w0 K := by
  intro n a hd hr
  refine wp_region_any hm ?_
  obtain ⟨hm1, hT1⟩ := okT_spec hT
  refine any_seqKM (m := m) (Ext := Ext) (w0 := w0) hrf (okD_spec hD) hF hT1 hm1 hd (fun a e w hr hk => ⟨e, hr, rfl, hk⟩) l.toArray.size _ a e0 _ (by simp) hr ?_ (hdr _ (below_drawn _ _)) ?_ ?_ ?_
  · intro i o ho hi
    simp [Array.getD_eq_getD_getElem?, Array.getElem?_replicate] at hi
    split at hi <;> simp at hi
  · intro j _
    simp [Array.getD_eq_getD_getElem?, Array.getElem?_replicate]
    split <;> rfl
  · have h1 := sk_sound (F := F.map (· == 1)) hBe (l.take m) 0 F e0 _ (fun j => by
      rw [Nat.zero_add, List.getD_eq_getElem?_getD, List.getD_eq_getElem?_getD, List.getElem?_map]
      cases F[j]? <;> rfl) (hv _ (below_drawn _ _))
    have h2 : rems (F.map (· == 1)) (Array.replicate l.toArray.size false) (l.toArray.toList.zipIdx.take m) = ((l.take m).zipIdx 0).map fun x => ((F.map (· == 1)).getD x.2 false, x.2, x.1) := by
      unfold rems
      rw [List.filter_eq_self.2 fun x _ => ?_]
      · have h3 : l.toArray.toList.zipIdx.take m = (l.take m).zipIdx := by
          apply List.ext_getElem?
          intro j
          simp only [List.getElem?_take, List.getElem?_zipIdx]
          split <;> simp
        rw [h3]
      · simp [Array.getD_eq_getD_getElem?, Array.getElem?_replicate]
        split <;> rfl
    rw [h2]
    exact h1
  · exact Nat.le_trans (List.length_filter_le _ _) (by simp)
end Go.Proofs.RV
