/-
  Layer 21: a table as a list in order.
-/
import Derived.Test.YtimhcjakpdebjaaTabS
namespace Go.Proofs.Ytimhcjakpdebjaa
open Go Go.RowKit Go.Proofs.RV
set_option linter.unusedSimpArgs false
set_option linter.unusedVariables false
set_option maxRecDepth 10000
set_option maxHeartbeats 1000000
abbrev EntM := PrefM × List Value
section
variable {α : Type}
def keysM (L : List (PrefM × α)) : List PrefM := L.map (·.1)
def SortedM (L : List (PrefM × α)) : Prop := (keysM L).Pairwise plt
instance (L : List (PrefM × α)) (p : PrefM) : Decidable (p ∈ keysM L) := inferInstance
def putL (L : List (PrefM × α)) (p : PrefM) (v : α) : List (PrefM × α) :=
  if p ∈ keysM L then L.map (fun e => if e.1 = p then (p, v) else e) else L.takeWhile (fun e => plt e.1 p) ++ (p, v) :: L.dropWhile (fun e => plt e.1 p)
def delL (L : List (PrefM × α)) (p : PrefM) : List (PrefM × α) := L.filter (fun e => e.1 ≠ p)
def getL (L : List (PrefM × α)) (p : PrefM) : Option α := (L.find? (fun e => e.1 = p)).map (·.2)
theorem mem_keys {L : List (PrefM × α)} {p : PrefM} : p ∈ keysM L ↔ ∃ v, (p, v) ∈ L := by
  unfold keysM
  constructor
  · intro h
    obtain ⟨e, he, rfl⟩ := List.mem_map.1 h
    exact ⟨e.2, he⟩
  · rintro ⟨v, h⟩
    exact List.mem_map.2 ⟨_, h, rfl⟩
theorem SortedM.nodup {L : List (PrefM × α)} (h : SortedM L) : (keysM L).Nodup := List.Pairwise.imp (fun {a b} (h : plt a b) (e : a = b) => plt_irrefl a (by rw [← e] at h; exact h)) h
theorem SortedM.one : ∀ {L : List (PrefM × α)}, SortedM L → ∀ {p : PrefM} {u v : α}, (p, u) ∈ L → (p, v) ∈ L → u = v
  | [], _, _, _, _, h, _ => by cases h
  | e :: L, hs, p, u, v, h1, h2 => by
    have hs' := List.pairwise_cons.1 (show (e.1 :: keysM L).Pairwise plt from hs)
    have no : ∀ w, (e.1, w) ∉ L := fun w hw => plt_irrefl _ (hs'.1 _ (mem_keys.2 ⟨w, hw⟩))
    rcases List.mem_cons.1 h1 with h3 | h3
    · rcases List.mem_cons.1 h2 with h4 | h4
      · rw [← h3] at h4
        exact (congrArg Prod.snd h4).symm
      · subst h3
        exact absurd h4 (no v)
    · rcases List.mem_cons.1 h2 with h4 | h4
      · subst h4
        exact absurd h3 (no u)
      · exact SortedM.one hs'.2 h3 h4
theorem mem_putL {L : List (PrefM × α)} {p q : PrefM} {u v : α} : (q, u) ∈ putL L p v ↔ (q = p ∧ u = v) ∨ (q ≠ p ∧ (q, u) ∈ L) := by
  unfold putL
  by_cases h : p ∈ keysM L
  · rw [if_pos h, List.mem_map]
    constructor
    · rintro ⟨e, he, h1⟩
      by_cases h2 : e.1 = p
      · rw [if_pos h2] at h1
        cases h1
        exact .inl ⟨rfl, rfl⟩
      · rw [if_neg h2] at h1
        subst h1
        exact .inr ⟨h2, he⟩
    · rintro (⟨rfl, rfl⟩ | ⟨h1, h2⟩)
      · obtain ⟨w, hw⟩ := mem_keys.1 h
        exact ⟨_, hw, by rw [if_pos rfl]⟩
      · exact ⟨_, h2, by rw [if_neg h1]⟩
  · rw [if_neg h]
    have hp := List.takeWhile_append_dropWhile (p := fun e : PrefM × α => decide (plt e.1 p)) (l := L)
    have hm : (q, u) ∈ L ↔ (q, u) ∈ L.takeWhile (fun e => plt e.1 p) ∨ (q, u) ∈ L.dropWhile (fun e => plt e.1 p) := by
      conv => lhs; rw [← hp]
      exact List.mem_append
    rw [List.mem_append, List.mem_cons]
    constructor
    · rintro (h1 | h1 | h1)
      · have : (q, u) ∈ L := hm.2 (.inl h1)
        exact .inr ⟨fun e => h (e ▸ mem_keys.2 ⟨u, this⟩), this⟩
      · cases h1
        exact .inl ⟨rfl, rfl⟩
      · have : (q, u) ∈ L := hm.2 (.inr h1)
        exact .inr ⟨fun e => h (e ▸ mem_keys.2 ⟨u, this⟩), this⟩
    · rintro (⟨rfl, rfl⟩ | ⟨h1, h2⟩)
      · exact .inr (.inl rfl)
      · rcases hm.1 h2 with h3 | h3
        · exact .inl h3
        · exact .inr (.inr h3)
theorem mem_delL {L : List (PrefM × α)} {p q : PrefM} {u : α} : (q, u) ∈ delL L p ↔ q ≠ p ∧ (q, u) ∈ L := by
  unfold delL
  rw [List.mem_filter]
  simp only [decide_eq_true_eq, ne_eq]
  exact and_comm
theorem sorted_insert {p : PrefM} : ∀ {l : List PrefM}, l.Pairwise plt → p ∉ l → (l.takeWhile (fun q => plt q p) ++ p :: l.dropWhile (fun q => plt q p)).Pairwise plt
  | [], _, _ => by simp
  | q :: l, h, hn => by
    have h' := List.pairwise_cons.1 h
    have hq : q ≠ p := fun e => hn (by simp [e])
    by_cases h1 : plt q p
    · rw [List.takeWhile_cons_of_pos (by simpa using h1), List.dropWhile_cons_of_pos (by simpa using h1), List.cons_append, List.pairwise_cons]
      refine ⟨fun r hr => ?_, sorted_insert h'.2 (fun hm => hn (by simp [hm]))⟩
      rw [List.mem_append, List.mem_cons] at hr
      rcases hr with hr | rfl | hr
      · exact h'.1 r ((List.takeWhile_sublist _).mem hr)
      · exact h1
      · exact h'.1 r ((List.dropWhile_sublist _).mem hr)
    · rw [List.takeWhile_cons_of_neg (by simpa using h1), List.dropWhile_cons_of_neg (by simpa using h1), List.nil_append, List.pairwise_cons]
      have h2 : plt p q := by
        rcases Classical.em (plt p q) with h | h
        · exact h
        · exact absurd ((plt_total hq).2 h) h1
      refine ⟨fun r hr => ?_, h⟩
      rcases List.mem_cons.1 hr with rfl | hr
      · exact h2
      · exact plt_trans h2 (h'.1 r hr)
theorem keys_put_in {L : List (PrefM × α)} {p : PrefM} {v : α} (h : p ∈ keysM L) : keysM (putL L p v) = keysM L := by
  unfold putL
  rw [if_pos h]
  unfold keysM
  rw [List.map_map]
  apply List.map_congr_left
  intro e _
  simp only [Function.comp]
  split
  · rename_i h; exact h.symm
  · rfl
theorem keys_put_new {L : List (PrefM × α)} {p : PrefM} {v : α} (h : p ∉ keysM L) : keysM (putL L p v) = (keysM L).takeWhile (fun q => plt q p) ++ p :: (keysM L).dropWhile (fun q => plt q p) := by
  unfold putL
  rw [if_neg h]
  unfold keysM
  rw [List.map_append, List.map_cons, List.takeWhile_map, List.dropWhile_map]
  rfl
theorem SortedM.put {L : List (PrefM × α)} (h : SortedM L) (p : PrefM) (v : α) : SortedM (putL L p v) := by
  unfold SortedM
  by_cases hp : p ∈ keysM L
  · rw [keys_put_in hp]; exact h
  · rw [keys_put_new hp]; exact sorted_insert h hp
theorem SortedM.del {L : List (PrefM × α)} (h : SortedM L) (p : PrefM) : SortedM (delL L p) := by
  unfold SortedM keysM at *
  rw [List.pairwise_map] at *
  exact h.filter _
theorem put_len {L : List (PrefM × α)} (p : PrefM) (v : α) : (putL L p v).length = if p ∈ keysM L then L.length else L.length + 1 := by
  unfold putL
  by_cases hp : p ∈ keysM L
  · rw [if_pos hp, if_pos hp, List.length_map]
  · rw [if_neg hp, if_neg hp, List.length_append, List.length_cons]
    have key : ∀ f : PrefM × α → Bool, (L.takeWhile f).length + (L.dropWhile f).length = L.length := fun f => by
      have := congrArg List.length (List.takeWhile_append_dropWhile (p := f) (l := L))
      rwa [List.length_append] at this
    exact congrArg (· + 1) (key _)
theorem del_len : ∀ {L : List (PrefM × α)}, SortedM L → ∀ (p : PrefM), (delL L p).length = if p ∈ keysM L then L.length - 1 else L.length
  | [], _, p => by simp [delL, keysM]
  | e :: L, h, p => by
    have h' := List.pairwise_cons.1 (show (e.1 :: keysM L).Pairwise plt from h)
    have ih := del_len (L := L) h'.2 p
    unfold delL at *
    have hk : ∀ q, q ∈ keysM (e :: L) ↔ q = e.1 ∨ q ∈ keysM L := fun q => List.mem_cons
    by_cases h1 : e.1 = p
    · have hn : p ∉ keysM L := fun hm => plt_irrefl p (by have := h'.1 p hm; rw [h1] at this; exact this)
      rw [if_neg hn] at ih
      rw [List.filter_cons_of_neg (by simp [h1]), ih, if_pos ((hk p).2 (.inl h1.symm))]
      rfl
    · rw [List.filter_cons_of_pos (by simp [h1]), List.length_cons, ih, List.length_cons]
      by_cases h2 : p ∈ keysM L
      · rw [if_pos h2, if_pos ((hk p).2 (.inr h2))]
        have : 0 < L.length := by
          cases L with
          | nil => cases h2
          | cons => simp
        omega
      · rw [if_neg h2, if_neg (fun h3 => by rcases (hk p).1 h3 with h4 | h4; exact h1 h4.symm; exact h2 h4)]
theorem get_some {L : List (PrefM × α)} (h : SortedM L) {p : PrefM} {v : α} (hm : (p, v) ∈ L) : getL L p = some v := by
  unfold getL
  cases hf : L.find? (fun e => e.1 = p) with
  | none =>
    have := List.find?_eq_none.1 hf (p, v) hm
    simp at this
  | some e =>
    have h1 := List.find?_some hf
    have h2 := List.mem_of_find?_eq_some hf
    simp only [decide_eq_true_eq] at h1
    obtain ⟨q, u⟩ := e
    simp only at h1
    subst h1
    rw [SortedM.one h h2 hm]
    rfl
theorem get_none {L : List (PrefM × α)} {p : PrefM} (h : p ∉ keysM L) : getL L p = none := by
  unfold getL
  rw [List.find?_eq_none.2 fun e he => ?_]
  · rfl
  · simp only [decide_eq_true_eq]
    intro h1
    exact h (mem_keys.2 ⟨e.2, by rw [← h1]; exact he⟩)
theorem sorted_ext : ∀ {l m : List PrefM}, l.Pairwise plt → m.Pairwise plt → (∀ x, x ∈ l ↔ x ∈ m) → l = m
  | [], [], _, _, _ => rfl
  | [], y :: m, _, _, h => by have := (h y).2 (by simp); cases this
  | x :: l, [], _, _, h => by have := (h x).1 (by simp); cases this
  | x :: l, y :: m, hl, hm, h => by
    have hl' := List.pairwise_cons.1 hl
    have hm' := List.pairwise_cons.1 hm
    have e : x = y := by
      rcases List.mem_cons.1 ((h x).1 (by simp)) with h1 | h1
      · exact h1
      · rcases List.mem_cons.1 ((h y).2 (by simp)) with h2 | h2
        · exact h2.symm
        · exact absurd (plt_trans (hm'.1 x h1) (hl'.1 y h2)) (plt_irrefl _)
    subst e
    rw [sorted_ext hl'.2 hm'.2 fun z => ⟨fun hz => ?_, fun hz => ?_⟩]
    · rcases List.mem_cons.1 ((h z).1 (by simp [hz])) with rfl | h1
      · exact absurd (hl'.1 z hz) (plt_irrefl _)
      · exact h1
    · rcases List.mem_cons.1 ((h z).2 (by simp [hz])) with rfl | h1
      · exact absurd (hm'.1 z hz) (plt_irrefl _)
      · exact h1
theorem nodup_le : ∀ {l m : List PrefM}, l.Nodup → (∀ x ∈ l, x ∈ m) → l.length ≤ m.length
  | [], _, _, _ => by simp
  | x :: l, m, hn, h => by
    have hn' := List.nodup_cons.1 hn
    have h1 := nodup_le (m := m.erase x) hn'.2 fun y hy => by
      have hm := h y (by simp [hy])
      exact (List.mem_erase_of_ne (fun e : y = x => hn'.1 (by rw [← e]; exact hy))).2 hm
    have h2 := List.length_erase_of_mem (h x (by simp))
    have h3 : 0 < m.length := List.length_pos_of_mem (h x (by simp))
    rw [List.length_cons]
    omega
theorem put_map {β : Type} (g : α → β) (L : List (PrefM × α)) (p : PrefM) (v : α) : putL (L.map fun e => (e.1, g e.2)) p (g v) = (putL L p v).map fun e => (e.1, g e.2) := by
  have hk : keysM (L.map fun e => (e.1, g e.2)) = keysM L := by unfold keysM; rw [List.map_map]; rfl
  unfold putL
  by_cases h : p ∈ keysM L
  · rw [if_pos h, if_pos (by rw [hk]; exact h), List.map_map, List.map_map]
    apply List.map_congr_left
    intro e _
    simp only [Function.comp]
    split <;> rfl
  · rw [if_neg h, if_neg (by rw [hk]; exact h), List.map_append, List.map_cons, List.takeWhile_map, List.dropWhile_map]
    rfl
theorem keys_map {β : Type} (g : α → β) (L : List (PrefM × α)) : keysM (L.map fun e => (e.1, g e.2)) = keysM L := by unfold keysM; rw [List.map_map]; rfl
theorem del_map {β : Type} (g : α → β) (L : List (PrefM × α)) (p : PrefM) : delL (L.map fun e => (e.1, g e.2)) p = (delL L p).map fun e => (e.1, g e.2) := by
  unfold delL
  rw [List.filter_map]
  rfl
theorem get_map {β : Type} (g : α → β) (L : List (PrefM × α)) (p : PrefM) : getL (L.map fun e => (e.1, g e.2)) p = (getL L p).map g := by
  unfold getL
  rw [List.find?_map, Option.map_map, Option.map_map]
  rfl
end
/-! ### Places and the list -/
theorem TInv.set {ls : List PlaceM} (h : TInv ls) {i : Nat} {x : PlaceM} (hi : i < ls.length) (h0 : x.state ≠ 0) (h1 : x.state = 1 → (∃ k, k < ls.length ∧ i = wayM ls x.p k ∧ ∀ j, j < k → ¬ FreeAt ls (wayM ls x.p j)) ∧ ∀ (i' : Nat) (y : PlaceM), i' ≠ i → ls[i']? = some y → y.state = 1 → y.p ≠ x.p) : TInv (ls.set i x) := by
  have hw : ∀ p k, wayM (ls.set i x) p k = wayM ls p k := fun p k => by unfold wayM; rw [List.length_set]
  have hf : ∀ j, ¬ FreeAt ls j → ¬ FreeAt (ls.set i x) j := by
    rintro j hj ⟨y, hy, h2⟩
    by_cases e : i = j
    · subst e
      rw [List.getElem?_set_self hi] at hy
      cases hy
      exact h0 h2
    · rw [List.getElem?_set_ne e] at hy
      exact hj ⟨y, hy, h2⟩
  refine ⟨fun a y hy hs => ?_, fun a b y z hy hz hs ht hp => ?_⟩
  · simp only [hw, List.length_set]
    by_cases e : i = a
    · subst e
      rw [List.getElem?_set_self hi] at hy
      cases hy
      obtain ⟨⟨k, h2, h3, h4⟩, _⟩ := h1 hs
      exact ⟨k, h2, h3, fun j hj => hf _ (h4 j hj)⟩
    · rw [List.getElem?_set_ne e] at hy
      obtain ⟨k, h2, h3, h4⟩ := h.way a y hy hs
      exact ⟨k, h2, h3, fun j hj => hf _ (h4 j hj)⟩
  · by_cases e : i = a
    · by_cases e2 : i = b
      · omega
      · subst e
        rw [List.getElem?_set_self hi] at hy
        rw [List.getElem?_set_ne e2] at hz
        cases hy
        exact absurd hp.symm ((h1 hs).2 b z (fun e => e2 e.symm) hz ht)
    · rw [List.getElem?_set_ne e] at hy
      by_cases e2 : i = b
      · subst e2
        rw [List.getElem?_set_self hi] at hz
        cases hz
        exact absurd hp ((h1 ht).2 a y (fun e' => e e'.symm) hy hs)
      · rw [List.getElem?_set_ne e2] at hz
        exact h.one a b y z hy hz hs ht hp
def AtM (ls : List PlaceM) (q : PrefM) (u : List Value) : Prop := ∃ i : Nat, ls[i]? = some ⟨1, q, u⟩
theorem at_set {ls : List PlaceM} {i : Nat} {x : PlaceM} (hi : i < ls.length) {q : PrefM} {u : List Value} : AtM (ls.set i x) q u ↔ x = ⟨1, q, u⟩ ∨ ∃ j : Nat, j ≠ i ∧ ls[j]? = some ⟨1, q, u⟩ := by
  constructor
  · rintro ⟨j, hj⟩
    by_cases e : i = j
    · subst e
      rw [List.getElem?_set_self hi] at hj
      exact .inl (Option.some.inj hj)
    · rw [List.getElem?_set_ne e] at hj
      exact .inr ⟨j, fun e' => e e'.symm, hj⟩
  · rintro (rfl | ⟨j, h1, h2⟩)
    · exact ⟨i, List.getElem?_set_self hi⟩
    · exact ⟨j, by rw [List.getElem?_set_ne (fun e => h1 e.symm)]; exact h2⟩
/-- the places and the list say the same -/
structure TabRel (ls : List PlaceM) (L : List EntM) (room : Nat) : Prop where
  inv : TInv ls
  mem : ∀ q u, (q, u) ∈ L ↔ AtM ls q u
  sorted : SortedM L
  len : ls.length = 2 * room
  le : L.length ≤ room
  pos : 1 ≤ room
theorem TabRel.new (room : Nat) (h : 1 ≤ room) (z : List Value) : TabRel (List.replicate (2 * room) ⟨0, prefZ, z⟩) [] room := by
  have no : ∀ (i : Nat) (y : PlaceM), (List.replicate (2 * room) (PlaceM.mk 0 prefZ z))[i]? = some y → y.state = 0 := by
    intro i y hy
    rw [List.getElem?_replicate] at hy
    split at hy
    · cases hy; rfl
    · cases hy
  refine ⟨⟨fun i y hy hs => (by have := no i y hy; omega), fun i j y z hy hz hs ht hp => (by have := no i y hy; omega)⟩, fun q u => ⟨fun h => (by cases h), fun ⟨i, hi⟩ => (by have := no i _ hi; simp at this)⟩, List.Pairwise.nil, by simp, Nat.zero_le _, h⟩
theorem TabRel.lpos {ls : List PlaceM} {L : List EntM} {room : Nat} (h : TabRel ls L room) : 0 < ls.length := by have := h.len; have := h.pos; omega
theorem taken_nodup {ls : List PlaceM} (h : TInv ls) : (takenM ls).Nodup := by
  unfold takenM List.Nodup
  rw [List.pairwise_map, List.pairwise_filter]
  rw [List.pairwise_iff_getElem]
  intro i j hi hj hij h1 h2 e
  have := h.one i j _ _ (List.getElem?_eq_getElem hi) (List.getElem?_eq_getElem hj) (by simpa using h1) (by simpa using h2) e
  omega
theorem mem_taken {ls : List PlaceM} {p : PrefM} : p ∈ takenM ls ↔ ∃ u, AtM ls p u := by
  unfold takenM
  constructor
  · intro h
    obtain ⟨y, hy, rfl⟩ := List.mem_map.1 h
    obtain ⟨h1, h2⟩ := List.mem_filter.1 hy
    obtain ⟨i, hi⟩ := List.getElem?_of_mem h1
    simp only [decide_eq_true_eq] at h2
    refine ⟨y.v, i, ?_⟩
    rw [hi, ← h2]
  · rintro ⟨u, i, hi⟩
    exact List.mem_map.2 ⟨_, List.mem_filter.2 ⟨List.mem_of_getElem? hi, by simp⟩, rfl⟩
theorem TabRel.taken {ls : List PlaceM} {L : List EntM} {room : Nat} (h : TabRel ls L room) {p : PrefM} : p ∈ takenM ls ↔ p ∈ keysM L := by
  rw [mem_taken, mem_keys]
  exact ⟨fun ⟨u, hu⟩ => ⟨u, (h.mem p u).2 hu⟩, fun ⟨u, hu⟩ => ⟨u, (h.mem p u).1 hu⟩⟩
/-- somewhere isn't taken -/
theorem TabRel.some_left {ls : List PlaceM} {L : List EntM} {room : Nat} (h : TabRel ls L room) : ∃ (i : Nat) (y : PlaceM), ls[i]? = some y ∧ y.state ≠ 1 := by
  rcases Classical.em (∃ (i : Nat) (y : PlaceM), ls[i]? = some y ∧ y.state ≠ 1) with h1 | h1
  · exact h1
  · exfalso
    have hall : ∀ y ∈ ls, y.state = 1 := fun y hy => by
      obtain ⟨i, hi⟩ := List.getElem?_of_mem hy
      rcases Classical.em (y.state = 1) with h2 | h2
      · exact h2
      · exact absurd ⟨i, y, hi, h2⟩ h1
    have e : takenM ls = ls.map PlaceM.p := by
      unfold takenM
      rw [List.filter_eq_self.2 fun y hy => by simpa using hall y hy]
    have := nodup_le (taken_nodup h.inv) (m := keysM L) fun p hp => h.taken.1 hp
    rw [e, List.length_map] at this
    unfold keysM at this
    rw [List.length_map] at this
    have := h.len; have := h.le; have := h.pos
    omega
theorem TabRel.all {ls : List PlaceM} {L : List EntM} {room : Nat} (h : TabRel ls L room) {rs : List PrefM} (hp : rs.Perm (takenM ls)) (hs : rs.Pairwise (fun x y => ¬ plt y x)) : rs = keysM L := by
  have hn : rs.Nodup := hp.nodup_iff.2 (taken_nodup h.inv)
  refine sorted_ext ?_ h.sorted fun x => ?_
  · have := hs.and hn
    refine this.imp ?_
    rintro a b ⟨h1, h2⟩
    rcases Classical.em (plt a b) with h3 | h3
    · exact h3
    · exact absurd ((plt_total (fun e => h2 e.symm)).2 h3) h1
  · rw [hp.mem_iff]
    exact h.taken
theorem TabRel.hit {ls : List PlaceM} {L : List EntM} {room : Nat} (h : TabRel ls L room) {p : PrefM} : 0 ≤ (findM ls p).1 ↔ p ∈ keysM L := by
  constructor
  · intro h1
    obtain ⟨i, _, _, y, hy, hy1, hyp⟩ := find_hit h.lpos h1
    exact mem_keys.2 ⟨y.v, (h.mem _ _).2 ⟨i, by rw [hy, ← hyp, ← hy1]⟩⟩
  · intro h1
    rcases Int.lt_or_le (findM ls p).1 0 with h2 | h2
    · obtain ⟨v, hv⟩ := mem_keys.1 h1
      obtain ⟨i, hi⟩ := (h.mem _ _).1 hv
      exact absurd ⟨_, hi, rfl, rfl⟩ (find_miss h.inv h.lpos h2 i)
    · exact h2
theorem TabRel.put_in {ls : List PlaceM} {L : List EntM} {room : Nat} (h : TabRel ls L room) {p : PrefM} (v : List Value) (hk : p ∈ keysM L) : TabRel (ls.set (findM ls p).1.toNat ⟨1, p, v⟩) (putL L p v) room := by
  obtain ⟨i, e, hil, y, hy, hy1, hyp⟩ := find_hit h.lpos (h.hit.2 hk)
  rw [e, Int.toNat_natCast]
  refine ⟨h.inv.set hil (by simp) (fun _ => ⟨?_, fun j z hj hz hz1 hzp => hj (h.inv.one j i z y hz hy hz1 hy1 (by rw [hyp]; exact hzp))⟩), fun q u => ?_, h.sorted.put _ _, by rw [List.length_set]; exact h.len, by rw [put_len, if_pos hk]; exact h.le, h.pos⟩
  · obtain ⟨k, h1, h2, h3⟩ := h.inv.way i y hy hy1
    rw [hyp] at h2 h3
    exact ⟨k, h1, h2, h3⟩
  · rw [mem_putL, at_set hil, h.mem]
    constructor
    · rintro (⟨rfl, rfl⟩ | ⟨h1, j, hj⟩)
      · exact .inl rfl
      · refine .inr ⟨j, fun e => ?_, hj⟩
        subst e
        rw [hy] at hj
        have : y = ⟨1, q, u⟩ := Option.some.inj hj
        rw [this] at hyp
        exact h1 hyp
    · rintro (h1 | ⟨j, h1, h2⟩)
      · simp only [PlaceM.mk.injEq] at h1
        exact .inl ⟨h1.2.1.symm, h1.2.2.symm⟩
      · refine .inr ⟨fun e => ?_, j, h2⟩
        exact h1 (h.inv.one j i _ y h2 hy rfl hy1 (by rw [hyp]; exact e))
theorem TabRel.spot {ls : List PlaceM} {L : List EntM} {room : Nat} (h : TabRel ls L room) {p : PrefM} (hk : p ∉ keysM L) : ∃ i : Nat, (findM ls p).2 = i ∧ i < ls.length := by
  have hlt : (findM ls p).1 < 0 := by
    rcases Int.lt_or_le (findM ls p).1 0 with h1 | h1
    · exact h1
    · exact absurd (h.hit.1 h1) hk
  obtain ⟨k, h1, h2, ⟨y, hy, _⟩, _⟩ := find_spot h.lpos hlt h.some_left
  exact ⟨_, h2, (List.getElem?_eq_some_iff.1 hy).1⟩
theorem TabRel.put_new {ls : List PlaceM} {L : List EntM} {room : Nat} (h : TabRel ls L room) {p : PrefM} (v : List Value) (hk : p ∉ keysM L) (hr : L.length ≠ room) : TabRel (ls.set (findM ls p).2.toNat ⟨1, p, v⟩) (putL L p v) room := by
  have hlt : (findM ls p).1 < 0 := by
    rcases Int.lt_or_le (findM ls p).1 0 with h1 | h1
    · exact h1
    · exact absurd (h.hit.1 h1) hk
  obtain ⟨k, h1, h2, ⟨y, hy, hy1⟩, h3⟩ := find_spot h.lpos hlt h.some_left
  have hil := (List.getElem?_eq_some_iff.1 hy).1
  have hno : ∀ (j : Nat) (z : PlaceM), ls[j]? = some z → z.state = 1 → z.p ≠ p := fun j z hz hz1 hzp => hk (by
    refine mem_keys.2 ⟨z.v, (h.mem _ _).2 ⟨j, ?_⟩⟩
    rw [hz, ← hzp, ← hz1])
  rw [h2, Int.toNat_natCast]
  refine ⟨h.inv.set hil (by simp) (fun _ => ⟨⟨k, h1, rfl, h3⟩, fun j z _ hz hz1 => hno j z hz hz1⟩), fun q u => ?_, h.sorted.put _ _, by rw [List.length_set]; exact h.len, by rw [put_len, if_neg hk]; have := h.le; omega, h.pos⟩
  rw [mem_putL, at_set hil, h.mem]
  constructor
  · rintro (⟨rfl, rfl⟩ | ⟨h4, j, hj⟩)
    · exact .inl rfl
    · refine .inr ⟨j, fun e => ?_, hj⟩
      subst e
      rw [hy] at hj
      have : y = ⟨1, q, u⟩ := Option.some.inj hj
      rw [this] at hy1
      exact hy1 rfl
  · rintro (h4 | ⟨j, h4, h5⟩)
    · simp only [PlaceM.mk.injEq] at h4
      exact .inl ⟨h4.2.1.symm, h4.2.2.symm⟩
    · exact .inr ⟨hno j _ h5 rfl, j, h5⟩
theorem TabRel.del {ls : List PlaceM} {L : List EntM} {room : Nat} (h : TabRel ls L room) {p : PrefM} (z : List Value) (hk : p ∈ keysM L) : TabRel (ls.set (findM ls p).1.toNat ⟨2, prefZ, z⟩) (delL L p) room := by
  obtain ⟨i, e, hil, y, hy, hy1, hyp⟩ := find_hit h.lpos (h.hit.2 hk)
  rw [e, Int.toNat_natCast]
  refine ⟨h.inv.set hil (by simp) (fun h => by simp at h), fun q u => ?_, h.sorted.del _, by rw [List.length_set]; exact h.len, by rw [del_len h.sorted, if_pos hk]; have := h.le; omega, h.pos⟩
  rw [mem_delL, at_set hil, h.mem]
  constructor
  · rintro ⟨h1, j, hj⟩
    refine .inr ⟨j, fun e => ?_, hj⟩
    subst e
    rw [hy] at hj
    have : y = ⟨1, q, u⟩ := Option.some.inj hj
    rw [this] at hyp
    exact h1 hyp
  · rintro (h1 | ⟨j, h1, h2⟩)
    · simp at h1
    · refine ⟨fun e => ?_, j, h2⟩
      exact h1 (h.inv.one j i _ y h2 hy rfl hy1 (by rw [hyp]; exact e))
end Go.Proofs.Ytimhcjakpdebjaa
