/-
  Layer 8: EtherShort and EtherTags.
-/
import Derived.Test.YtejigcfdggkhgaaEtherR
namespace Go.Proofs.Ytejigcfdggkhgaa
open Go Go.RowKit Go.Proofs.RV
set_option linter.unusedSimpArgs false
set_option linter.unusedVariables false
set_option maxRecDepth 10000
set_option maxHeartbeats 4000000

theorem bt_of_take {l l' : List UInt8} {a i : Nat} (h : l'.take a = l.take a) (hi : i < a) : bt l' i = bt l i := by
  have h1 : (l'.take a)[i]? = (l.take a)[i]? := by rw [h]
  rw [List.getElem?_take_of_lt hi, List.getElem?_take_of_lt hi] at h1
  simp [bt, List.getD_eq_getElem?_getD, h1]
theorem ethGo_fine (l : List UInt8) : ∀ (r k : Nat) (b : Bool) (x : Int), ethGo l r k = (b, x, 0) → ∃ a : Nat, x = a ∧ k + 2 ≤ a ∧ a ≤ l.length ∧ (∀ l', l'.take a = l.take a → ethGo l' r k = (b, x, 0)) ∧ ∀ m, m < a → ethGo (l.take m) r k = (false, 0, 1) := by
  intro r
  induction r with
  | zero =>
    intro k b x h
    rcases Nat.lt_or_ge l.length (k + 2) with h1 | h1
    · rw [ethGo_short h1] at h; simp at h
    · cases ht : isTag (two l k) with
      | true => rw [ethGo_tag h1 ht] at h; simp at h
      | false =>
        have h' := h
        rw [ethGo_end h1 ht] at h
        split at h
        · simp at h
        · simp only [Prod.mk.injEq, and_true] at h
          refine ⟨k + 2, h.2.symm, by omega, h1, fun l' hl' => ?_, fun m hm => ethGo_short (by rw [List.length_take]; omega)⟩
          have hll : k + 2 ≤ l'.length := by
            have := congrArg List.length hl'
            rw [List.length_take, List.length_take] at this
            omega
          have e : two l' k = two l k := by unfold two; rw [bt_of_take hl' (by omega), bt_of_take hl' (by omega)]
          rw [ethGo_end hll (by rw [e]; exact ht), e, ← ethGo_end h1 ht]
          exact h'
  | succ r ih =>
    intro k b x h
    rcases Nat.lt_or_ge l.length (k + 2) with h1 | h1
    · rw [ethGo_short h1] at h; simp at h
    · cases ht : isTag (two l k) with
      | true =>
        rw [ethGo_tag h1 ht] at h
        obtain ⟨a, hx, ha, hal, h2, h3⟩ := ih (k + 4) b x h
        refine ⟨a, hx, by omega, hal, fun l' hl' => ?_, fun m hm => ?_⟩
        · have hll : k + 2 ≤ l'.length := by
            have := congrArg List.length hl'
            rw [List.length_take, List.length_take] at this
            omega
          have e : two l' k = two l k := by unfold two; rw [bt_of_take hl' (by omega), bt_of_take hl' (by omega)]
          rw [ethGo_tag hll (by rw [e]; exact ht)]
          exact h2 l' hl'
        · rcases Nat.lt_or_ge m (k + 2) with h4 | h4
          · exact ethGo_short (by rw [List.length_take]; omega)
          · have e : two (l.take m) k = two l k := by
              unfold two
              rw [bt_of_take (l' := l.take m) (l := l) (a := m) (by rw [List.take_take, Nat.min_self]) (by omega), bt_of_take (l' := l.take m) (l := l) (a := m) (by rw [List.take_take, Nat.min_self]) (by omega)]
            rw [ethGo_tag (by rw [List.length_take]; omega) (by rw [e]; exact ht)]
            exact h3 m hm
      | false =>
        have h' := h
        rw [ethGo_end h1 ht] at h
        split at h
        · simp at h
        · simp only [Prod.mk.injEq, and_true] at h
          refine ⟨k + 2, h.2.symm, by omega, h1, fun l' hl' => ?_, fun m hm => ethGo_short (by rw [List.length_take]; omega)⟩
          have hll : k + 2 ≤ l'.length := by
            have := congrArg List.length hl'
            rw [List.length_take, List.length_take] at this
            omega
          have e : two l' k = two l k := by unfold two; rw [bt_of_take hl' (by omega), bt_of_take hl' (by omega)]
          rw [ethGo_end hll (by rw [e]; exact ht), e, ← ethGo_end h1 ht]
          exact h'
theorem ethGo_why (l : List UInt8) : ∀ (r k : Nat), (ethGo l r k).2.2 = 0 ∨ ∃ c, ethGo l r k = (false, 0, c) ∧ c ≠ 0 := by
  intro r
  induction r with
  | zero =>
    intro k
    unfold ethGo
    split
    · exact .inr ⟨1, rfl, by omega⟩
    split
    · exact .inr ⟨6, rfl, by omega⟩
    split
    · exact .inr ⟨2, rfl, by omega⟩
    · exact .inl rfl
  | succ r ih =>
    intro k
    unfold ethGo
    split
    · exact .inr ⟨1, rfl, by omega⟩
    split
    · exact ih _
    split
    · exact .inr ⟨2, rfl, by omega⟩
    · exact .inl rfl
theorem ether_short (w : World) (A : Option Addr) (l : List UInt8) (c : Nat) (q : Int) (A' : Option Addr) (m : List UInt8) (c' : Nat) (hA : Bs w A l) (hc : l.length ≤ c) (hq : 0 ≤ q ∧ q < 65536) (hA' : Bs w A' m) :
    Ret Try.prog 13 #[.slice A l.length c, .int .u16 q, .slice A' m.length c'] w fun v w' => v = .bool true ∧ More w w' := by
  refine ret_of Try.func13 rfl (by kernel_rfl) (Nat.le_of_ble_eq_true (by kernel_rfl)) ?_
  simp (config := {maxSteps := 1000000}) only [↓zvD, zvU, ↓up_apply, ↓hv_apply, ↓upO_some, ↓upO_none, ↓ev_tmp, ↓ev_const, ↓ev_func, ↓ev_global, init, Nat.reduceEqDiff, Nat.reduceAdd, Nat.reduceMul, Nat.reduceSub, ↓reduceIte, Int.reduceEq, Int.reduceNe, Nat.reduceLeDiff, one, Value.cells, Int.reduceLE, Int.reduceLT, Int.reduceToNat, add_mk, reduceCtorEq, tyF]
  refine call_ok Try.call32 (law08_awake w) ?_
  rintro _ w1 ⟨rfl, hm1⟩
  simp (config := {maxSteps := 1000000}) only [↓zvD, zvU, ↓up_apply, ↓hv_apply, ↓upO_some, ↓upO_none, ↓ev_tmp, ↓ev_const, ↓ev_func, ↓ev_global, init, Nat.reduceEqDiff, Nat.reduceAdd, Nat.reduceMul, Nat.reduceSub, ↓reduceIte, Int.reduceEq, Int.reduceNe, Nat.reduceLeDiff, one, Value.cells, Int.reduceLE, Int.reduceLT, Int.reduceToNat, add_mk, reduceCtorEq, tyF]
  refine ⟨fun h1 => ?_, fun h1 => ⟨fun h2 => ?_, fun h2 => ?_⟩⟩
  · refine call_ok Try.call32 (law08_awake w1) ?_
    rintro _ w2 ⟨rfl, hm2⟩
    simp (config := {maxSteps := 1000000}) only [↓zvD, zvU, ↓up_apply, ↓hv_apply, ↓upO_some, ↓upO_none, ↓ev_tmp, ↓ev_const, ↓ev_func, ↓ev_global, init, Nat.reduceEqDiff, Nat.reduceAdd, Nat.reduceMul, Nat.reduceSub, ↓reduceIte, Int.reduceEq, Int.reduceNe, Nat.reduceLeDiff, one, Value.cells, Int.reduceLE, Int.reduceLT, Int.reduceToNat, add_mk, reduceCtorEq, tyF]
    exact More.trans hm1 hm2
  · refine call_ok Try.call32 (law08_awake w1) ?_
    rintro _ w2 ⟨rfl, hm2⟩
    simp (config := {maxSteps := 1000000}) only [↓zvD, zvU, ↓up_apply, ↓hv_apply, ↓upO_some, ↓upO_none, ↓ev_tmp, ↓ev_const, ↓ev_func, ↓ev_global, init, Nat.reduceEqDiff, Nat.reduceAdd, Nat.reduceMul, Nat.reduceSub, ↓reduceIte, Int.reduceEq, Int.reduceNe, Nat.reduceLeDiff, one, Value.cells, Int.reduceLE, Int.reduceLT, Int.reduceToNat, add_mk, reduceCtorEq, tyF]
    exact More.trans hm1 hm2
  refine call_ok Try.call33 (ether_parse w1 A l c (hA.more hm1) (by omega)) ?_
  rintro _ w2 ⟨rfl, hm2⟩
  have hm12 := hm1.trans hm2
  simp (config := {maxSteps := 1000000}) only [↓zvD, zvU, ↓up_apply, ↓hv_apply, ↓upO_some, ↓upO_none, ↓ev_tmp, ↓ev_const, ↓ev_func, ↓ev_global, init, Nat.reduceEqDiff, Nat.reduceAdd, Nat.reduceMul, Nat.reduceSub, ↓reduceIte, Int.reduceEq, Int.reduceNe, Nat.reduceLeDiff, one, Value.cells, Int.reduceLE, Int.reduceLT, Int.reduceToNat, add_mk, reduceCtorEq, tyF, zerLink]
  refine link_var fun w3 hm3 hb3 _ => ?_
  have hm13 := hm12.trans hm3
  rcases ethGo_why l 2 12 with hw | ⟨r, hw, hr⟩
  rotate_left
  · have hw : (etherM l).2.2 = r := by unfold etherM; rw [hw]
    have hne : ¬ (etherM l).2.2 = 0 := by rw [hw]; exact hr
    simp (config := {maxSteps := 1000000}) only [↓zvD, zvU, ↓up_apply, ↓hv_apply, ↓upO_some, ↓upO_none, ↓ev_tmp, ↓ev_const, ↓ev_func, ↓ev_global, init, Nat.reduceEqDiff, Nat.reduceAdd, Nat.reduceMul, Nat.reduceSub, ↓reduceIte, Int.reduceEq, Int.reduceNe, Nat.reduceLeDiff, one, Value.cells, Int.reduceLE, Int.reduceLT, Int.reduceToNat, add_mk, reduceCtorEq, tyF, hne]
    exact hm13
  have hw : (etherM l).2.2 = 0 := hw
  obtain ⟨b, x, hbx⟩ : ∃ b x, etherM l = (b, x, 0) := ⟨_, _, by rw [← hw]⟩
  obtain ⟨a, rfl, ha, hal, hsame, hcut⟩ := ethGo_fine l 2 12 b x hbx
  rw [hbx] at hb3 ⊢
  have k5 : IntKind.i64.wrap q = q := w64 (by omega) (by omega)
  have k6 : q.tmod (a : Int) = q % (a : Int) := Int.tmod_eq_emod_of_nonneg hq.1
  have h0 : ¬ (a : Int) = 0 := by omega
  have hmod := Int.emod_nonneg q h0
  have hmod2 := Int.emod_lt_of_pos q (show 0 < (a : Int) by omega)
  obtain ⟨k, hk⟩ := Int.eq_ofNat_of_zero_le hmod
  rw [hk] at hmod2 k6
  have hka : k < a := by omega
  have hkc : k ≤ c := by omega
  have hk0 : (0 : Int) ≤ k := by omega
  simp (config := {maxSteps := 1000000}) only [↓zvD, zvU, ↓up_apply, ↓hv_apply, ↓upO_some, ↓upO_none, ↓ev_tmp, ↓ev_const, ↓ev_func, ↓ev_global, init, Nat.reduceEqDiff, Nat.reduceAdd, Nat.reduceMul, Nat.reduceSub, ↓reduceIte, Int.reduceEq, Int.reduceNe, Nat.reduceLeDiff, one, Value.cells, Int.reduceLE, Int.reduceLT, Int.reduceToNat, add_mk, reduceCtorEq, tyF, hb3.cell, k5, k6, h0, hk0, hkc, Int.toNat_natCast]
  have htk : (l.take k).length = k := by rw [List.length_take]; omega
  refine call_ok Try.call33 (by have := ether_parse w3 A (l.take k) c (Cs.takeB (hA.more hm13) _) (by omega); rw [htk] at this; exact this) ?_
  rintro _ w4 ⟨rfl, hm4⟩
  have hcut1 : etherM (l.take k) = (false, 0, 1) := hcut k hka
  rw [hcut1]
  simp (config := {maxSteps := 1000000}) only [↓zvD, zvU, ↓up_apply, ↓hv_apply, ↓upO_some, ↓upO_none, ↓ev_tmp, ↓ev_const, ↓ev_func, ↓ev_global, init, Nat.reduceEqDiff, Nat.reduceAdd, Nat.reduceMul, Nat.reduceSub, ↓reduceIte, Int.reduceEq, Int.reduceNe, Nat.reduceLeDiff, one, Value.cells, Int.reduceLE, Int.reduceLT, Int.reduceToNat, add_mk, reduceCtorEq, tyF, zerLink]
  refine link_var fun w5 hm5 hb5 _ => ?_
  have hm15 := (hm13.trans hm4).trans hm5
  have hb35 := (hb3.more hm4).more hm5
  refine bslice (z := .int .u8 0) (cells := #[]) Try.underlying23 byteE (by omega) (bcells_list [] (by simp)) ?_
  have hac : a ≤ c := by omega
  have ha0 : (0 : Int) ≤ a := by omega
  have hm6 := more_alloc w5 (.cells #[] 5)
  have s6 : (w5.alloc (.cells #[] 5)).heap.size = w5.heap.size + 1 := size_alloc _ _
  have own0 := Own.made w5 5 1 #[] 0 rfl (by simp [maxLen]) (B := w5.heap.size) (Nat.le_refl _)
  have hb6 := hb35.more hm6
  generalize w5.alloc (.cells #[] 5) = w6 at hm6 s6 own0 hb6 ⊢
  simp (config := {maxSteps := 1000000}) only [↓zvD, zvU, ↓up_apply, ↓hv_apply, ↓upO_some, ↓upO_none, ↓ev_tmp, ↓ev_const, ↓ev_func, ↓ev_global, init, Nat.reduceEqDiff, Nat.reduceAdd, Nat.reduceMul, Nat.reduceSub, ↓reduceIte, Int.reduceEq, Int.reduceNe, Nat.reduceLeDiff, one, Value.cells, Int.reduceLE, Int.reduceLT, Int.reduceToNat, add_mk, reduceCtorEq, tyF, hb6.cell, ha0, hac, Int.toNat_natCast]
  have hta : (l.take a).length = a := by rw [List.length_take]; omega
  refine app_own (m := a) Try.underlying23 byteE rfl (by omega) own0 (Cs.takeB (hA.more (hm15.trans hm6)) a) (by simpa using hta) (byteV_one _) (by simp only [maxLen]; omega) (by omega) (by omega) ?_
  intro A8 c8 w8 ho8 hg8 _
  have hm58 : More w5 w8 := grown_below own0 hm6 (by omega) hg8
  have hm18 : More w w8 := hm15.trans hm58
  have s8 := hg8.size
  rw [Nat.zero_add, show (#[] : Array Value).toList = [] from rfl, List.nil_append] at ho8
  rw [Nat.zero_add]
  simp (config := {maxSteps := 1000000}) only [↓zvD, zvU, ↓up_apply, ↓hv_apply, ↓upO_some, ↓upO_none, ↓ev_tmp, ↓ev_const, ↓ev_func, ↓ev_global, init, Nat.reduceEqDiff, Nat.reduceAdd, Nat.reduceMul, Nat.reduceSub, ↓reduceIte, Int.reduceEq, Int.reduceNe, Nat.reduceLeDiff, one, Value.cells, Int.reduceLE, Int.reduceLT, Int.reduceToNat, add_mk, reduceCtorEq, tyF]
  refine app_own (m := m.length) (B := w5.heap.size) Try.underlying23 byteE rfl (by omega) ho8 (hA'.more hm18) (by simp) (byteV_one m) (by simp only [maxLen]; omega) (by omega) (by omega) ?_
  intro A9 c9 w9 ho9 hg9 _
  have hm59 : More w5 w9 := grown_below ho8 hm58 (by omega) hg9
  have hm19 : More w w9 := hm15.trans hm59
  rw [← List.map_append] at ho9
  have hLen : (l.take a ++ m).length = a + m.length := by rw [List.length_append, hta]
  simp (config := {maxSteps := 1000000}) only [↓zvD, zvU, ↓up_apply, ↓hv_apply, ↓upO_some, ↓upO_none, ↓ev_tmp, ↓ev_const, ↓ev_func, ↓ev_global, init, Nat.reduceEqDiff, Nat.reduceAdd, Nat.reduceMul, Nat.reduceSub, ↓reduceIte, Int.reduceEq, Int.reduceNe, Nat.reduceLeDiff, one, Value.cells, Int.reduceLE, Int.reduceLT, Int.reduceToNat, add_mk, reduceCtorEq, tyF]
  refine call_ok Try.call33 (by have := ether_parse w9 A9 (l.take a ++ m) c9 ho9.cs (by omega); rw [hLen] at this; exact this) ?_
  rintro _ w10 ⟨rfl, hm10⟩
  have hmore : etherM (l.take a ++ m) = (b, (a : Int), 0) := hsame _ (by rw [List.take_append_of_le_length (by omega), List.take_take, Nat.min_self])
  rw [hmore]
  simp (config := {maxSteps := 1000000}) only [↓zvD, zvU, ↓up_apply, ↓hv_apply, ↓upO_some, ↓upO_none, ↓ev_tmp, ↓ev_const, ↓ev_func, ↓ev_global, init, Nat.reduceEqDiff, Nat.reduceAdd, Nat.reduceMul, Nat.reduceSub, ↓reduceIte, Int.reduceEq, Int.reduceNe, Nat.reduceLeDiff, one, Value.cells, Int.reduceLE, Int.reduceLT, Int.reduceToNat, add_mk, reduceCtorEq, tyF, zerLink]
  refine link_var fun w11 hm11 hb11 _ => ?_
  have hm511 := (hm59.trans hm10).trans hm11
  have r1 := hb11.all_eq 2 rfl
  have r2 := (hb35.more hm511).all_eq 2 rfl
  simp (config := {maxSteps := 1000000}) only [↓zvD, zvU, ↓up_apply, ↓hv_apply, ↓upO_some, ↓upO_none, ↓ev_tmp, ↓ev_const, ↓ev_func, ↓ev_global, init, Nat.reduceEqDiff, Nat.reduceAdd, Nat.reduceMul, Nat.reduceSub, ↓reduceIte, Int.reduceEq, Int.reduceNe, Nat.reduceLeDiff, one, Value.cells, Int.reduceLE, Int.reduceLT, Int.reduceToNat, add_mk, reduceCtorEq, tyF, r1, r2, link_eq _ _ _ _ w, beq_self_eq_true, Bool.and_self]
  exact hm15.trans hm511
end Go.Proofs.Ytejigcfdggkhgaa
