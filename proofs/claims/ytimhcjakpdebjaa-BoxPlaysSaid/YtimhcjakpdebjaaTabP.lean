/-
  Layer 21: the plain laws of places: what a search finds, in whatever order things were put and taken.
-/
import Derived.Test.YtimhcjakpdebjaaTabF
namespace Go.Proofs.Ytimhcjakpdebjaa
open Go Go.RowKit Go.Proofs.RV
set_option linter.unusedSimpArgs false
set_option linter.unusedVariables false
set_option maxRecDepth 10000
set_option maxHeartbeats 1000000
/-- the place at step j of a prefix's way -/
def wayM (ls : List PlaceM) (p : PrefM) (j : Nat) : Nat := (hashM p ls.length + j) % ls.length
def TakenAt (ls : List PlaceM) (p : PrefM) (i : Nat) : Prop := ∃ y, ls[i]? = some y ∧ y.state = 1 ∧ y.p = p
/-- the step is neither free nor where p is -/
def Passed (ls : List PlaceM) (p : PrefM) (j : Nat) : Prop := ∃ y, ls[wayM ls p j]? = some y ∧ y.state ≠ 0 ∧ ¬ (y.state = 1 ∧ y.p = p)
def FreeAt (ls : List PlaceM) (i : Nat) : Prop := ∃ y, ls[i]? = some y ∧ y.state = 0
/-- what s says of the first m steps: where the first one is that isn't taken -/
def SpotOk (ls : List PlaceM) (p : PrefM) (m : Nat) (s : Int) : Prop :=
  (s = -1 ∧ ∀ j, j < m → ∃ y, ls[wayM ls p j]? = some y ∧ y.state = 1) ∨
  (∃ j, j < m ∧ s = (wayM ls p j : Nat) ∧ (∃ y, ls[wayM ls p j]? = some y ∧ y.state ≠ 1) ∧ ∀ i, i < j → Passed ls p i)
theorem SpotOk.step {ls : List PlaceM} {p : PrefM} {m : Nat} {s : Int} {y : PlaceM} (h : SpotOk ls p m s) (hp : ∀ j, j < m → Passed ls p j) (hy : ls[wayM ls p m]? = some y) :
    SpotOk ls p (m + 1) (if y.state ≠ 1 ∧ s < 0 then ((wayM ls p m : Nat) : Int) else s) := by
  rcases h with ⟨rfl, h⟩ | ⟨j, h1, rfl, h2, h3⟩
  · by_cases h1 : y.state = 1
    · rw [if_neg (fun h => h.1 h1)]
      left
      refine ⟨rfl, fun j hj => ?_⟩
      rcases Nat.lt_or_ge j m with h2 | h2
      · exact h j h2
      · obtain rfl : j = m := by omega
        exact ⟨y, hy, h1⟩
    · rw [if_pos ⟨h1, by omega⟩]
      right
      exact ⟨m, by omega, rfl, ⟨y, hy, h1⟩, hp⟩
  · rw [if_neg (by omega)]
    right
    exact ⟨j, by omega, rfl, h2, h3⟩
/-- what a search ends with -/
def Found (ls : List PlaceM) (p : PrefM) (r : Int × Int) : Prop :=
  (∃ i : Nat, r.1 = i ∧ i < ls.length ∧ TakenAt ls p i) ∨
  (r.1 = -1 ∧ ∃ m, m ≤ ls.length ∧ SpotOk ls p m r.2 ∧ ((m = ls.length ∧ ∀ j, j < m → Passed ls p j) ∨ ∃ k, m = k + 1 ∧ (∀ j, j < k → Passed ls p j) ∧ FreeAt ls (wayM ls p k)))
theorem scan_found {ls : List PlaceM} {p : PrefM} (hpos : 0 < ls.length) : ∀ (f k : Nat) (s : Int), f + k = ls.length → (∀ j, j < k → Passed ls p j) → SpotOk ls p k s → Found ls p (scanM ls p (hashM p ls.length) f k s)
  | 0, k, s, hf, hp, hs => by
    unfold scanM
    exact .inr ⟨rfl, k, by omega, hs, .inl ⟨by omega, hp⟩⟩
  | f + 1, k, s, hf, hp, hs => by
    have hil : wayM ls p k < ls.length := Nat.mod_lt _ hpos
    obtain ⟨y, hy⟩ := row_nat ls _ hil
    have hy' : ls[(hashM p ls.length + k) % ls.length]? = some y := hy
    unfold scanM
    rw [hy']
    simp only
    by_cases h1 : y.state = 1 ∧ y.p = p
    · rw [if_pos h1]
      exact .inl ⟨_, rfl, hil, y, hy, h1.1, h1.2⟩
    · rw [if_neg h1]
      have hst := hs.step hp hy
      by_cases h2 : y.state = 0
      · rw [if_pos h2]
        exact .inr ⟨rfl, k + 1, by omega, hst, .inr ⟨k, rfl, hp, y, hy, h2⟩⟩
      · rw [if_neg h2]
        refine scan_found hpos f (k + 1) _ (by omega) (fun j hj => ?_) hst
        rcases Nat.lt_or_ge j k with h3 | h3
        · exact hp j h3
        · obtain rfl : j = k := by omega
          exact ⟨y, hy, h2, h1⟩
theorem find_found {ls : List PlaceM} (p : PrefM) (hpos : 0 < ls.length) : Found ls p (findM ls p) :=
  scan_found hpos ls.length 0 (-1) rfl (fun j hj => by omega) (.inl ⟨rfl, fun j hj => by omega⟩)
/-- who is there is on its way behind no free place, and nowhere else -/
structure TInv (ls : List PlaceM) : Prop where
  way : ∀ (i : Nat) (y : PlaceM), ls[i]? = some y → y.state = 1 → ∃ k, k < ls.length ∧ i = wayM ls y.p k ∧ ∀ j, j < k → ¬ FreeAt ls (wayM ls y.p j)
  one : ∀ (i i' : Nat) (y y' : PlaceM), ls[i]? = some y → ls[i']? = some y' → y.state = 1 → y'.state = 1 → y.p = y'.p → i = i'
theorem find_hit {ls : List PlaceM} {p : PrefM} (hpos : 0 < ls.length) (h : 0 ≤ (findM ls p).1) : ∃ i : Nat, (findM ls p).1 = i ∧ i < ls.length ∧ TakenAt ls p i := by
  rcases find_found p hpos with h1 | ⟨h1, _⟩
  · exact h1
  · omega
theorem find_miss {ls : List PlaceM} {p : PrefM} (hI : TInv ls) (hpos : 0 < ls.length) (h : (findM ls p).1 < 0) : ∀ i, ¬ TakenAt ls p i := by
  rintro i ⟨y, hy, h1, rfl⟩
  obtain ⟨k, hk, rfl, hfree⟩ := hI.way i y hy h1
  rcases find_found y.p hpos with ⟨j, h2, _⟩ | ⟨_, m, hm, _, h3⟩
  · omega
  · rcases h3 with ⟨rfl, h3⟩ | ⟨q, rfl, h3, h4⟩
    · obtain ⟨z, hz, _, h5⟩ := h3 k hk
      rw [hy] at hz
      cases hz
      exact h5 ⟨h1, rfl⟩
    · rcases Nat.lt_trichotomy k q with h6 | h6 | h6
      · obtain ⟨z, hz, _, h5⟩ := h3 k h6
        rw [hy] at hz
        cases hz
        exact h5 ⟨h1, rfl⟩
      · subst h6
        obtain ⟨z, hz, h5⟩ := h4
        rw [hy] at hz
        cases hz
        omega
      · exact hfree q h6 h4
/-- where somebody might go, if somewhere isn't taken -/
theorem find_spot {ls : List PlaceM} {p : PrefM} (hpos : 0 < ls.length) (h : (findM ls p).1 < 0) (hx : ∃ (i : Nat) (y : PlaceM), ls[i]? = some y ∧ y.state ≠ 1) :
    ∃ k, k < ls.length ∧ (findM ls p).2 = (wayM ls p k : Nat) ∧ (∃ y, ls[wayM ls p k]? = some y ∧ y.state ≠ 1) ∧ ∀ j, j < k → ¬ FreeAt ls (wayM ls p j) := by
  rcases find_found p hpos with ⟨j, h2, _⟩ | ⟨_, m, hm, hs, h3⟩
  · omega
  · have fin : ∀ k, k < m → (findM ls p).2 = (wayM ls p k : Nat) → (∃ y, ls[wayM ls p k]? = some y ∧ y.state ≠ 1) → (∀ i, i < k → Passed ls p i) → ∃ k, k < ls.length ∧ (findM ls p).2 = (wayM ls p k : Nat) ∧ (∃ y, ls[wayM ls p k]? = some y ∧ y.state ≠ 1) ∧ ∀ j, j < k → ¬ FreeAt ls (wayM ls p j) := by
      intro k hk h4 h5 h6
      refine ⟨k, by omega, h4, h5, fun j hj ⟨y, hy, h7⟩ => ?_⟩
      obtain ⟨z, hz, h8, _⟩ := h6 j hj
      rw [hy] at hz
      cases hz
      exact h8 h7
    rcases hs with ⟨h4, h5⟩ | ⟨k, hk, h4, h5, h6⟩
    · exfalso
      rcases h3 with ⟨rfl, h3⟩ | ⟨q, rfl, h3, h7⟩
      · obtain ⟨i, y, hy, h8⟩ := hx
        have hi : i < ls.length := (List.getElem?_eq_some_iff.1 hy).1
        obtain ⟨j, hj, e⟩ : ∃ j, j < ls.length ∧ wayM ls p j = i := by
          have hh : hashM p ls.length < ls.length := Nat.mod_lt _ hpos
          rcases Nat.lt_or_ge i (hashM p ls.length) with h9 | h9
          · refine ⟨i + ls.length - hashM p ls.length, by omega, ?_⟩
            unfold wayM
            rw [show hashM p ls.length + (i + ls.length - hashM p ls.length) = i + ls.length by omega, Nat.add_mod_right, Nat.mod_eq_of_lt hi]
          · refine ⟨i - hashM p ls.length, by omega, ?_⟩
            unfold wayM
            rw [show hashM p ls.length + (i - hashM p ls.length) = i by omega, Nat.mod_eq_of_lt hi]
        obtain ⟨z, hz, h9⟩ := h5 j hj
        rw [e, hy] at hz
        cases hz
        exact h8 h9
      · obtain ⟨z, hz, h9⟩ := h5 q (by omega)
        obtain ⟨y, hy, h10⟩ := h7
        rw [hz] at hy
        cases hy
        omega
    · exact fin k hk h4 h5 h6
end Go.Proofs.Ytimhcjakpdebjaa
