/-
  What stands behind a packet makes no difference: the plain laws.
-/
import Derived.Test.YtbknfmaefmbfdaaEther
import Derived.Test.YtbknfmaefmbfdaaInet6
import Derived.Test.YtbknfmaefmbfdaaNet
namespace Go.Proofs.Ytbknfmaefmbfdaa
open Go Go.RowKit Go.Proofs.RV
set_option linter.unusedSimpArgs false
set_option linter.unusedVariables false
set_option maxRecDepth 10000
set_option maxHeartbeats 4000000

theorem bt_of_take {l l' : List UInt8} {a i : Nat} (h : l'.take a = l.take a) (hi : i < a) : bt l' i = bt l i := by
  have h1 : (l'.take a)[i]? = (l.take a)[i]? := by rw [h]
  rw [List.getElem?_take_of_lt hi, List.getElem?_take_of_lt hi] at h1
  simp [bt, List.getD_eq_getElem?_getD, h1]
theorem ethGo_fine (l : List UInt8) : ∀ (r k : Nat) (b : Bool) (x : Int), ethGo l r k = (b, x, 0) → ∃ a : Nat, x = a ∧ k + 2 ≤ a ∧ a ≤ l.length ∧ (∀ l', l'.take a = l.take a → ethGo l' r k = (b, x, 0)) ∧ ∀ m, m < a → ethGo (l.take m) r k = (false, 0, 1) := by
  intro r
  induction r with
  | zero =>
    intro k b x h
    rcases Nat.lt_or_ge l.length (k + 2) with h1 | h1
    · rw [ethGo_short h1] at h; simp at h
    · cases ht : isTag (two l k) with
      | true => rw [ethGo_tag h1 ht] at h; simp at h
      | false =>
        have h' := h
        rw [ethGo_end h1 ht] at h
        split at h
        · simp at h
        · simp only [Prod.mk.injEq, and_true] at h
          refine ⟨k + 2, h.2.symm, by omega, h1, fun l' hl' => ?_, fun m hm => ethGo_short (by rw [List.length_take]; omega)⟩
          have hll : k + 2 ≤ l'.length := by
            have := congrArg List.length hl'
            rw [List.length_take, List.length_take] at this
            omega
          have e : two l' k = two l k := by unfold two; rw [bt_of_take hl' (by omega), bt_of_take hl' (by omega)]
          rw [ethGo_end hll (by rw [e]; exact ht), e, ← ethGo_end h1 ht]
          exact h'
  | succ r ih =>
    intro k b x h
    rcases Nat.lt_or_ge l.length (k + 2) with h1 | h1
    · rw [ethGo_short h1] at h; simp at h
    · cases ht : isTag (two l k) with
      | true =>
        rw [ethGo_tag h1 ht] at h
        obtain ⟨a, hx, ha, hal, h2, h3⟩ := ih (k + 4) b x h
        refine ⟨a, hx, by omega, hal, fun l' hl' => ?_, fun m hm => ?_⟩
        · have hll : k + 2 ≤ l'.length := by
            have := congrArg List.length hl'
            rw [List.length_take, List.length_take] at this
            omega
          have e : two l' k = two l k := by unfold two; rw [bt_of_take hl' (by omega), bt_of_take hl' (by omega)]
          rw [ethGo_tag hll (by rw [e]; exact ht)]
          exact h2 l' hl'
        · rcases Nat.lt_or_ge m (k + 2) with h4 | h4
          · exact ethGo_short (by rw [List.length_take]; omega)
          · have e : two (l.take m) k = two l k := by
              unfold two
              rw [bt_of_take (l' := l.take m) (l := l) (a := m) (by rw [List.take_take, Nat.min_self]) (by omega), bt_of_take (l' := l.take m) (l := l) (a := m) (by rw [List.take_take, Nat.min_self]) (by omega)]
            rw [ethGo_tag (by rw [List.length_take]; omega) (by rw [e]; exact ht)]
            exact h3 m hm
      | false =>
        have h' := h
        rw [ethGo_end h1 ht] at h
        split at h
        · simp at h
        · simp only [Prod.mk.injEq, and_true] at h
          refine ⟨k + 2, h.2.symm, by omega, h1, fun l' hl' => ?_, fun m hm => ethGo_short (by rw [List.length_take]; omega)⟩
          have hll : k + 2 ≤ l'.length := by
            have := congrArg List.length hl'
            rw [List.length_take, List.length_take] at this
            omega
          have e : two l' k = two l k := by unfold two; rw [bt_of_take hl' (by omega), bt_of_take hl' (by omega)]
          rw [ethGo_end hll (by rw [e]; exact ht), e, ← ethGo_end h1 ht]
          exact h'
theorem why4_zero {l : List UInt8} (h : why4 l = 0) : 20 ≤ head4 l ∧ (20 : Int) ≤ l.length ∧ bt l 0 / 16 = 4 ∧ head4 l ≤ two l 2 ∧ two l 2 ≤ l.length ∧ norm (wsum (l.take (head4 l).toNat)) = 65535 := by
  unfold why4 at h
  split at h
  · cases h
  split at h
  · cases h
  split at h
  · cases h
  split at h
  · cases h
  split at h
  · cases h
  omega
theorem bt_take {l : List UInt8} {k i : Nat} (h : i < k) : bt (l.take k) i = bt l i := by
  simp [bt, List.getD_eq_getElem?_getD, List.getElem?_take, h]
theorem bt_append {l m : List UInt8} {i : Nat} (h : i < l.length) : bt (l ++ m) i = bt l i := by
  simp [bt, List.getD_eq_getElem?_getD, List.getElem?_append_left h]
theorem cut_more {l : List UInt8} (h : why4 l = 0) (m : List UInt8) : why4 (l.take (two l 2).toNat ++ m) = 0 ∧ parse4 (l.take (two l 2).toNat ++ m) = parse4 l := by
  obtain ⟨h1, h2, h3, h4, h5, h6⟩ := why4_zero h
  have hh : head4 l ≤ 60 := by have := bt_lt l 0; unfold head4; omega
  have hlt : (l.take (two l 2).toNat).length = (two l 2).toNat := by rw [List.length_take]; omega
  have hb : ∀ i, i < 20 → bt (l.take (two l 2).toNat ++ m) i = bt l i := fun i hi => by rw [bt_append (by omega), bt_take (by omega)]
  have e4 : head4 (l.take (two l 2).toNat ++ m) = head4 l := by unfold head4; rw [hb 0 (by omega)]
  have t2 : two (l.take (two l 2).toNat ++ m) 2 = two l 2 := by show bt (l.take (two l 2).toNat ++ m) 2 * 256 + bt (l.take (two l 2).toNat ++ m) 3 = bt l 2 * 256 + bt l 3; rw [hb 2 (by omega), hb 3 (by omega)]
  have t6 : two (l.take (two l 2).toNat ++ m) 6 = two l 6 := by show bt (l.take (two l 2).toNat ++ m) 6 * 256 + bt (l.take (two l 2).toNat ++ m) 7 = bt l 6 * 256 + bt l 7; rw [hb 6 (by omega), hb 7 (by omega)]
  have tk : ∀ k, k ≤ (two l 2).toNat → (l.take (two l 2).toNat ++ m).take k = l.take k := fun k hk => by
    rw [List.take_append_of_le_length (by omega), List.take_take, Nat.min_eq_left hk]
  have hlen : ((l.take (two l 2).toNat ++ m).length : Int) = two l 2 + m.length := by rw [List.length_append, hlt]; omega
  have hw : why4 (l.take (two l 2).toNat ++ m) = 0 := by
    unfold why4
    rw [hlen, e4, hb 0 (by omega), t2, tk _ (by omega), if_neg (by omega), if_neg (by omega), if_neg (by omega), if_neg (by omega), if_neg (by omega)]
  refine ⟨hw, ?_⟩
  unfold parse4
  rw [if_pos hw, if_pos h]
  unfold net4
  rw [t2, t6, e4, hb 9 (by omega), tk _ (Nat.le_refl _)]
  have d : ∀ i j, i + j ≤ 20 → ((l.take (two l 2).toNat ++ m).drop i).take j = (l.drop i).take j := fun i j hij => by
    rw [List.take_drop, List.take_drop, tk _ (by omega)]
  rw [d 12 4 (by omega), d 16 4 (by omega)]
theorem bt_of6 {l l' : List UInt8} {a i : Nat} (h : l'.take a = l.take a) (hi : i < a) : bt l' i = bt l i := by
  have h1 : (l'.take a)[i]? = (l.take a)[i]? := by rw [h]
  rw [List.getElem?_take_of_lt hi, List.getElem?_take_of_lt hi] at h1
  simp [bt, List.getD_eq_getElem?_getD, h1]
theorem why6_zero {l : List UInt8} (h : why6 l = 0) : 40 ≤ l.length ∧ bt l 0 / 16 = 6 ∧ 40 + two l 4 ≤ l.length := by
  unfold why6 walk6 at h
  split at h
  · simp at h
  split at h
  · simp at h
  split at h
  · simp at h
  omega
theorem cut6_more {l : List UInt8} (h : why6 l = 0) (l' : List UInt8) (ht : l'.take (40 + two l 4).toNat = l.take (40 + two l 4).toNat) : why6 l' = 0 ∧ parse6 l' = parse6 l := by
  obtain ⟨h1, h2, h3⟩ := why6_zero h
  have t0 := two_range l 4
  obtain ⟨a, ha⟩ := Int.eq_ofNat_of_zero_le (show 0 ≤ 40 + two l 4 by omega)
  have hat : (40 + two l 4).toNat = a := by omega
  rw [hat] at ht
  have hll : a ≤ l'.length := by
    have := congrArg List.length ht
    rw [List.length_take, List.length_take] at this
    omega
  have hb : ∀ i, i < 40 → bt l' i = bt l i := fun i hi => bt_of6 ht (by omega)
  have t4 : two l' 4 = two l 4 := by show bt l' 4 * 256 + bt l' 5 = bt l 4 * 256 + bt l 5; rw [hb 4 (by omega), hb 5 (by omega)]
  have hw : walk6 l' = walk6 l := by
    have e1 : walk6 l' = go6 8 (bt l' 6) ((l'.take (40 + two l' 4).toNat).drop 40) false := by unfold walk6; rw [if_neg (by omega), if_neg (by rw [hb 0 (by omega)]; omega), if_neg (by omega)]
    have e2 : walk6 l = go6 8 (bt l 6) ((l.take (40 + two l 4).toNat).drop 40) false := by unfold walk6; rw [if_neg (by omega), if_neg (by omega), if_neg (by omega)]
    rw [e1, e2, t4, hb 6 (by omega), hat, ht]
  have hw6 : why6 l' = 0 := by unfold why6; rw [hw]; exact h
  have d : ∀ i j, i + j ≤ 40 → (l'.drop i).take j = (l.drop i).take j := fun i j hij => by
    have e : ∀ x : List UInt8, (x.drop i).take j = ((x.take a).drop i).take j := fun x => by
      rw [List.drop_take, List.take_take, Nat.min_eq_left (by omega)]
    rw [e l', e l, ht]
  refine ⟨hw6, ?_⟩
  unfold parse6
  rw [if_pos hw6, if_pos h, hw, d 8 16 (by omega), d 24 16 (by omega)]
end Go.Proofs.Ytbknfmaefmbfdaa
