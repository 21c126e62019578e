/-
  Layer 21: a table's operations, told of the list in order.
-/
import Derived.Test.YtimhcjakpdebjaaTabL
namespace Go.Proofs.Ytimhcjakpdebjaa
open Go Go.RowKit Go.Proofs.RV
set_option linter.unusedSimpArgs false
set_option linter.unusedVariables false
set_option maxRecDepth 10000
set_option maxHeartbeats 1000000
def putOk (L : List EntM) (room : Nat) (p : PrefM) : Bool := decide (p ∈ keysM L) || decide (L.length < room)
def putA (L : List EntM) (room : Nat) (p : PrefM) (v : List Value) : List EntM := if putOk L room p = true then putL L p v else L
theorem set_typed {ls : List PlaceM} {Q : List Value → Prop} (h : ∀ y ∈ ls, Q y.v) {i : Nat} {x : PlaceM} (hx : Q x.v) : ∀ y ∈ ls.set i x, Q y.v := by
  intro y hy
  rcases List.mem_or_eq_of_mem_set hy with h1 | rfl
  · exact h y h1
  · exact hx
def AllA (L : List EntM) (w : World) (v : Value) (w' : World) : Prop :=
  ∃ (A : Option Addr) (c : Nat), v = .slice A (keysM L).length c ∧ Cs w' A ((keysM L).flatMap PrefM.cells) ∧ (∀ a, A = some a → w.heap.size ≤ a.block) ∧ More w w'
def Typed_int (v : List Value) : Prop := ∃ (x : Int), v = [.int .i64 x]
/-- a table at t, its places at b, with what L says -/
def TabA_int (w : World) (b t : Nat) (L : List EntM) (room : Nat) : Prop :=
  ∃ ls : List PlaceM, TabW w 91 95 10 b t ls room L.length ∧ TabRel ls L room ∧ ∀ y ∈ ls, Typed_int y.v
theorem TabA_int.mod {w w' : World} {S : Nat → Prop} {b t : Nat} {L : List EntM} {room : Nat} (h : TabA_int w b t L room) (hm : Mod S w w') (hb : ¬ S b) (ht : ¬ S t) : TabA_int w' b t L room := by
  obtain ⟨ls, h1, h2, h3⟩ := h
  exact ⟨ls, ⟨hm.blk h1.row hb, hm.blk h1.tab ht, h1.ne, h1.ok, h1.pos, h1.le⟩, h2, h3⟩
theorem TabA_int.more {w w' : World} {b t : Nat} {L : List EntM} {room : Nat} (h : TabA_int w b t L room) (hm : More w w') : TabA_int w' b t L room :=
  h.mod (S := fun _ => False) (Mod.of_more hm) (fun h => h) (fun h => h)
theorem TabA_int.sorted {w : World} {b t : Nat} {L : List EntM} {room : Nat} (h : TabA_int w b t L room) : SortedM L := by obtain ⟨ls, h1, h2, h3⟩ := h; exact h2.sorted
theorem TabA_int.le {w : World} {b t : Nat} {L : List EntM} {room : Nat} (h : TabA_int w b t L room) : L.length ≤ room := by obtain ⟨ls, h1, h2, h3⟩ := h; exact h2.le
theorem TabA_int.lt {w : World} {b t : Nat} {L : List EntM} {room : Nat} (h : TabA_int w b t L room) : b < w.heap.size ∧ t < w.heap.size := by obtain ⟨ls, h1, h2, h3⟩ := h; exact ⟨h1.row.lt, h1.tab.lt⟩
theorem TabA_int.typed {w : World} {b t : Nat} {L : List EntM} {room : Nat} (h : TabA_int w b t L room) {p : PrefM} {v : List Value} (hm : (p, v) ∈ L) : Typed_int v ∧ p.addr.length = 7 := by
  obtain ⟨ls, h1, h2, h3⟩ := h
  obtain ⟨i, hi⟩ := (h2.mem _ _).1 hm
  have := List.mem_of_getElem? hi
  exact ⟨h3 _ this, (h1.ok _ this).pre⟩
theorem tab_new_int (w : World) (room : Nat) (h1 : 1 ≤ room) (h2 : room ≤ 64) : Ret Try.prog 13 #[.int .i64 room] w fun v w' => ∃ b t, v = .tuple #[.pointer (some ⟨t, 0, none⟩), .int .i64 0] ∧ w.heap.size ≤ b ∧ w.heap.size ≤ t ∧ TabA_int w' b t [] room ∧ More w w' := by
  refine Calls.mono (table_new_int w room) ?_
  rintro e w' ⟨v, rfl, hm, hyes, _⟩
  obtain ⟨b, t, n, rfl, hn, hb, hbt, hB, hQ⟩ := hyes (by omega)
  obtain rfl : n = 2 * room := by omega
  refine ⟨_, rfl, b, t, rfl, hb, by omega, ⟨_, ⟨hB, by rw [List.length_replicate]; exact hQ, by omega, ?_, by rw [List.length_replicate]; omega, by rw [List.length_replicate]; omega⟩, TabRel.new room h1 [.int .i64 0], ?_⟩, hm⟩
  · intro x hx
    rw [List.eq_of_mem_replicate hx]
    exact zplOk_int 0
  · intro x hx
    rw [List.eq_of_mem_replicate hx]
    exact ⟨0, rfl⟩
theorem tab_put_int (w : World) (b t : Nat) (L : List EntM) (room : Nat) (p : PrefM) (x : Int) (hp : p.addr.length = 7) (hT : TabA_int w b t L room) (hr : room ≤ 64) :
    Ret Try.prog 14 #[.pointer (some ⟨t, 0, none⟩), .agg p.cells.toArray, .int .i64 x] w fun v w' => v = .bool (putOk L room p) ∧ TabA_int w' b t (putA L room p [.int .i64 x]) room ∧ Mod (two b t) w w' := by
  obtain ⟨ls, h1, h2, h3⟩ := hT
  refine Calls.mono (table_put_int w b t ls room L.length p x hp h1 hr h2.le (fun h4 _ => h2.spot fun hk => by have := h2.hit.2 hk; omega)) ?_
  rintro e w' ⟨v, rfl, rfl, hT', hm⟩
  refine ⟨_, rfl, ?_⟩
  unfold putA putOk
  unfold putM at hT' ⊢
  by_cases hk : p ∈ keysM L
  · have h5 := h2.hit.2 hk
    rw [if_pos h5] at hT' ⊢
    simp only [hk, decide_true, Bool.true_or, if_true]
    refine ⟨trivial, ⟨_, by rw [put_len, if_pos hk]; exact hT', h2.put_in _ hk, set_typed h3 ⟨x, rfl⟩⟩, hm⟩
  · have h5 : ¬ 0 ≤ (findM ls p).1 := fun h => hk (h2.hit.1 h)
    rw [if_neg h5] at hT' ⊢
    have hle := h2.le
    by_cases h6 : L.length = room
    · rw [if_pos h6] at hT' ⊢
      have h7 : ¬ L.length < room := by omega
      simp only [hk, h7, decide_false, Bool.false_or, Bool.false_eq_true, if_false]
      exact ⟨trivial, ⟨_, hT', h2, h3⟩, hm⟩
    · rw [if_neg h6] at hT' ⊢
      have h7 : L.length < room := by omega
      simp only [hk, h7, decide_true, decide_false, Bool.false_or, if_true]
      exact ⟨trivial, ⟨_, by rw [put_len, if_neg hk]; exact hT', h2.put_new _ hk h6, set_typed h3 ⟨x, rfl⟩⟩, hm⟩
def GetA_int (L : List EntM) (p : PrefM) (w : World) (v : Value) (w' : World) : Prop :=
  (getL L p = none → v = .tuple #[.int .i64 0, .bool false]) ∧ (∀ (x : Int), getL L p = some [.int .i64 x] → v = .tuple #[.int .i64 x, .bool true]) ∧ More w w'
theorem tab_get_int (w : World) (b t : Nat) (L : List EntM) (room : Nat) (p : PrefM) (hp : p.addr.length = 7) (hT : TabA_int w b t L room) :
    Ret Try.prog 17 #[.pointer (some ⟨t, 0, none⟩), .agg p.cells.toArray] w (GetA_int L p w) := by
  obtain ⟨ls, h1, h2, h3⟩ := hT
  refine Calls.mono (table_get_int w b t ls room L.length p hp h1 h3) ?_
  rintro e w' ⟨v, rfl, h4, h5, hm⟩
  refine ⟨_, rfl, fun hn => h4 ?_, ?_, hm⟩
  · rcases Int.lt_or_le (findM ls p).1 0 with h6 | h6
    · exact h6
    · obtain ⟨u, hu⟩ := mem_keys.1 (h2.hit.1 h6)
      rw [get_some h2.sorted hu] at hn
      cases hn
  · intro x hg
    have hk : p ∈ keysM L := by
      rcases Classical.em (p ∈ keysM L) with h6 | h6
      · exact h6
      · rw [get_none h6] at hg; cases hg
    obtain ⟨i, hi, hil, y, hy, hy1, hyp⟩ := find_hit h2.lpos (h2.hit.2 hk)
    have hu : (p, y.v) ∈ L := (h2.mem _ _).2 ⟨i, by rw [hy, ← hyp, ← hy1]⟩
    rw [get_some h2.sorted hu] at hg
    exact h5 i y hi hy x (Option.some.inj hg)
theorem tab_del_int (w : World) (b t : Nat) (L : List EntM) (room : Nat) (p : PrefM) (hp : p.addr.length = 7) (hT : TabA_int w b t L room) (hr : room ≤ 64) :
    Ret Try.prog 16 #[.pointer (some ⟨t, 0, none⟩), .agg p.cells.toArray] w fun v w' => v = .bool (decide (p ∈ keysM L)) ∧ TabA_int w' b t (delL L p) room ∧ Mod (two b t) w w' := by
  obtain ⟨ls, h1, h2, h3⟩ := hT
  have hpos : p ∈ keysM L → 1 ≤ L.length := fun hk => by
    cases L with
    | nil => cases hk
    | cons => simp
  refine Calls.mono (table_del_int w b t ls room L.length p hp h1 hr h2.le (fun h => hpos (h2.hit.1 h))) ?_
  rintro e w' ⟨v, rfl, rfl, hT', hm⟩
  refine ⟨_, rfl, ?_⟩
  unfold delM at hT' ⊢
  have hdl := del_len h2.sorted p
  by_cases hk : p ∈ keysM L
  · rw [if_pos (h2.hit.2 hk)] at hT' ⊢
    rw [if_pos hk] at hdl
    by_cases h6 : L.length = 1
    · rw [if_pos h6] at hT' ⊢
      have hnil : delL L p = [] := List.eq_nil_of_length_eq_zero (by omega)
      rw [hnil]
      refine ⟨by rw [decide_eq_true hk], ⟨_, hT', by rw [h2.len]; exact TabRel.new room h2.pos [.int .i64 0], ?_⟩, hm⟩
      intro x hx
      rw [List.eq_of_mem_replicate hx]
      exact ⟨0, rfl⟩
    · rw [if_neg h6] at hT' ⊢
      exact ⟨by rw [decide_eq_true hk], ⟨_, by rw [hdl]; exact hT', h2.del [.int .i64 0] hk, set_typed h3 ⟨0, rfl⟩⟩, hm⟩
  · rw [if_neg (fun h => hk (h2.hit.1 h))] at hT' ⊢
    have hd : delL L p = L := by
      unfold delL
      rw [List.filter_eq_self]
      intro e he
      simp only [ne_eq, decide_eq_true_eq]
      exact fun e' => hk (mem_keys.2 ⟨e.2, by rw [← e']; exact he⟩)
    rw [hd]
    exact ⟨by rw [decide_eq_false hk], ⟨_, hT', h2, h3⟩, hm⟩
theorem tab_all_int (w : World) (b t : Nat) (L : List EntM) (room : Nat) (hT : TabA_int w b t L room) :
    Ret Try.prog 18 #[.pointer (some ⟨t, 0, none⟩)] w (AllA L w) := by
  obtain ⟨ls, h1, h2, h3⟩ := hT
  refine Calls.mono (table_all_int w b t ls room L.length h1) ?_
  rintro e w' ⟨v, rfl, A, c, rs, rfl, h4, h5, h6, h7, h8⟩
  obtain rfl := h2.all h4 h5
  exact ⟨_, rfl, A, c, rfl, h6, h7, h8⟩
theorem tab_len_int (w : World) (b t : Nat) (L : List EntM) (room : Nat) (hT : TabA_int w b t L room) :
    Ret Try.prog 15 #[.pointer (some ⟨t, 0, none⟩)] w fun v w' => v = .int .i64 L.length ∧ w' = w := by
  obtain ⟨ls, h1, h2, h3⟩ := hT
  exact table_len_int w b t ls room L.length h1
def Typed_string (v : List Value) : Prop := ∃ (x : ByteArray), v = [.string x]
/-- a table at t, its places at b, with what L says -/
def TabA_string (w : World) (b t : Nat) (L : List EntM) (room : Nat) : Prop :=
  ∃ ls : List PlaceM, TabW w 100 102 10 b t ls room L.length ∧ TabRel ls L room ∧ ∀ y ∈ ls, Typed_string y.v
theorem TabA_string.mod {w w' : World} {S : Nat → Prop} {b t : Nat} {L : List EntM} {room : Nat} (h : TabA_string w b t L room) (hm : Mod S w w') (hb : ¬ S b) (ht : ¬ S t) : TabA_string w' b t L room := by
  obtain ⟨ls, h1, h2, h3⟩ := h
  exact ⟨ls, ⟨hm.blk h1.row hb, hm.blk h1.tab ht, h1.ne, h1.ok, h1.pos, h1.le⟩, h2, h3⟩
theorem TabA_string.more {w w' : World} {b t : Nat} {L : List EntM} {room : Nat} (h : TabA_string w b t L room) (hm : More w w') : TabA_string w' b t L room :=
  h.mod (S := fun _ => False) (Mod.of_more hm) (fun h => h) (fun h => h)
theorem TabA_string.sorted {w : World} {b t : Nat} {L : List EntM} {room : Nat} (h : TabA_string w b t L room) : SortedM L := by obtain ⟨ls, h1, h2, h3⟩ := h; exact h2.sorted
theorem TabA_string.le {w : World} {b t : Nat} {L : List EntM} {room : Nat} (h : TabA_string w b t L room) : L.length ≤ room := by obtain ⟨ls, h1, h2, h3⟩ := h; exact h2.le
theorem TabA_string.lt {w : World} {b t : Nat} {L : List EntM} {room : Nat} (h : TabA_string w b t L room) : b < w.heap.size ∧ t < w.heap.size := by obtain ⟨ls, h1, h2, h3⟩ := h; exact ⟨h1.row.lt, h1.tab.lt⟩
theorem TabA_string.typed {w : World} {b t : Nat} {L : List EntM} {room : Nat} (h : TabA_string w b t L room) {p : PrefM} {v : List Value} (hm : (p, v) ∈ L) : Typed_string v ∧ p.addr.length = 7 := by
  obtain ⟨ls, h1, h2, h3⟩ := h
  obtain ⟨i, hi⟩ := (h2.mem _ _).1 hm
  have := List.mem_of_getElem? hi
  exact ⟨h3 _ this, (h1.ok _ this).pre⟩
theorem tab_new_string (w : World) (room : Nat) (h1 : 1 ≤ room) (h2 : room ≤ 64) : Ret Try.prog 24 #[.int .i64 room] w fun v w' => ∃ b t, v = .tuple #[.pointer (some ⟨t, 0, none⟩), .int .i64 0] ∧ w.heap.size ≤ b ∧ w.heap.size ≤ t ∧ TabA_string w' b t [] room ∧ More w w' := by
  refine Calls.mono (table_new_string w room) ?_
  rintro e w' ⟨v, rfl, hm, hyes, _⟩
  obtain ⟨b, t, n, rfl, hn, hb, hbt, hB, hQ⟩ := hyes (by omega)
  obtain rfl : n = 2 * room := by omega
  refine ⟨_, rfl, b, t, rfl, hb, by omega, ⟨_, ⟨hB, by rw [List.length_replicate]; exact hQ, by omega, ?_, by rw [List.length_replicate]; omega, by rw [List.length_replicate]; omega⟩, TabRel.new room h1 [.string ⟨#[]⟩], ?_⟩, hm⟩
  · intro x hx
    rw [List.eq_of_mem_replicate hx]
    exact zplOk_string 0
  · intro x hx
    rw [List.eq_of_mem_replicate hx]
    exact ⟨_, rfl⟩
theorem tab_put_string (w : World) (b t : Nat) (L : List EntM) (room : Nat) (p : PrefM) (x : ByteArray) (hp : p.addr.length = 7) (hT : TabA_string w b t L room) (hr : room ≤ 64) :
    Ret Try.prog 25 #[.pointer (some ⟨t, 0, none⟩), .agg p.cells.toArray, .string x] w fun v w' => v = .bool (putOk L room p) ∧ TabA_string w' b t (putA L room p [.string x]) room ∧ Mod (two b t) w w' := by
  obtain ⟨ls, h1, h2, h3⟩ := hT
  refine Calls.mono (table_put_string w b t ls room L.length p x hp h1 hr h2.le (fun h4 _ => h2.spot fun hk => by have := h2.hit.2 hk; omega)) ?_
  rintro e w' ⟨v, rfl, rfl, hT', hm⟩
  refine ⟨_, rfl, ?_⟩
  unfold putA putOk
  unfold putM at hT' ⊢
  by_cases hk : p ∈ keysM L
  · have h5 := h2.hit.2 hk
    rw [if_pos h5] at hT' ⊢
    simp only [hk, decide_true, Bool.true_or, if_true]
    refine ⟨trivial, ⟨_, by rw [put_len, if_pos hk]; exact hT', h2.put_in _ hk, set_typed h3 ⟨x, rfl⟩⟩, hm⟩
  · have h5 : ¬ 0 ≤ (findM ls p).1 := fun h => hk (h2.hit.1 h)
    rw [if_neg h5] at hT' ⊢
    have hle := h2.le
    by_cases h6 : L.length = room
    · rw [if_pos h6] at hT' ⊢
      have h7 : ¬ L.length < room := by omega
      simp only [hk, h7, decide_false, Bool.false_or, Bool.false_eq_true, if_false]
      exact ⟨trivial, ⟨_, hT', h2, h3⟩, hm⟩
    · rw [if_neg h6] at hT' ⊢
      have h7 : L.length < room := by omega
      simp only [hk, h7, decide_true, decide_false, Bool.false_or, if_true]
      exact ⟨trivial, ⟨_, by rw [put_len, if_neg hk]; exact hT', h2.put_new _ hk h6, set_typed h3 ⟨x, rfl⟩⟩, hm⟩
def GetA_string (L : List EntM) (p : PrefM) (w : World) (v : Value) (w' : World) : Prop :=
  (getL L p = none → v = .tuple #[.string ⟨#[]⟩, .bool false]) ∧ (∀ (x : ByteArray), getL L p = some [.string x] → v = .tuple #[.string x, .bool true]) ∧ More w w'
theorem tab_get_string (w : World) (b t : Nat) (L : List EntM) (room : Nat) (p : PrefM) (hp : p.addr.length = 7) (hT : TabA_string w b t L room) :
    Ret Try.prog 27 #[.pointer (some ⟨t, 0, none⟩), .agg p.cells.toArray] w (GetA_string L p w) := by
  obtain ⟨ls, h1, h2, h3⟩ := hT
  refine Calls.mono (table_get_string w b t ls room L.length p hp h1 h3) ?_
  rintro e w' ⟨v, rfl, h4, h5, hm⟩
  refine ⟨_, rfl, fun hn => h4 ?_, ?_, hm⟩
  · rcases Int.lt_or_le (findM ls p).1 0 with h6 | h6
    · exact h6
    · obtain ⟨u, hu⟩ := mem_keys.1 (h2.hit.1 h6)
      rw [get_some h2.sorted hu] at hn
      cases hn
  · intro x hg
    have hk : p ∈ keysM L := by
      rcases Classical.em (p ∈ keysM L) with h6 | h6
      · exact h6
      · rw [get_none h6] at hg; cases hg
    obtain ⟨i, hi, hil, y, hy, hy1, hyp⟩ := find_hit h2.lpos (h2.hit.2 hk)
    have hu : (p, y.v) ∈ L := (h2.mem _ _).2 ⟨i, by rw [hy, ← hyp, ← hy1]⟩
    rw [get_some h2.sorted hu] at hg
    exact h5 i y hi hy x (Option.some.inj hg)
theorem tab_del_string (w : World) (b t : Nat) (L : List EntM) (room : Nat) (p : PrefM) (hp : p.addr.length = 7) (hT : TabA_string w b t L room) (hr : room ≤ 64) :
    Ret Try.prog 28 #[.pointer (some ⟨t, 0, none⟩), .agg p.cells.toArray] w fun v w' => v = .bool (decide (p ∈ keysM L)) ∧ TabA_string w' b t (delL L p) room ∧ Mod (two b t) w w' := by
  obtain ⟨ls, h1, h2, h3⟩ := hT
  have hpos : p ∈ keysM L → 1 ≤ L.length := fun hk => by
    cases L with
    | nil => cases hk
    | cons => simp
  refine Calls.mono (table_del_string w b t ls room L.length p hp h1 hr h2.le (fun h => hpos (h2.hit.1 h))) ?_
  rintro e w' ⟨v, rfl, rfl, hT', hm⟩
  refine ⟨_, rfl, ?_⟩
  unfold delM at hT' ⊢
  have hdl := del_len h2.sorted p
  by_cases hk : p ∈ keysM L
  · rw [if_pos (h2.hit.2 hk)] at hT' ⊢
    rw [if_pos hk] at hdl
    by_cases h6 : L.length = 1
    · rw [if_pos h6] at hT' ⊢
      have hnil : delL L p = [] := List.eq_nil_of_length_eq_zero (by omega)
      rw [hnil]
      refine ⟨by rw [decide_eq_true hk], ⟨_, hT', by rw [h2.len]; exact TabRel.new room h2.pos [.string ⟨#[]⟩], ?_⟩, hm⟩
      intro x hx
      rw [List.eq_of_mem_replicate hx]
      exact ⟨_, rfl⟩
    · rw [if_neg h6] at hT' ⊢
      exact ⟨by rw [decide_eq_true hk], ⟨_, by rw [hdl]; exact hT', h2.del [.string ⟨#[]⟩] hk, set_typed h3 ⟨_, rfl⟩⟩, hm⟩
  · rw [if_neg (fun h => hk (h2.hit.1 h))] at hT' ⊢
    have hd : delL L p = L := by
      unfold delL
      rw [List.filter_eq_self]
      intro e he
      simp only [ne_eq, decide_eq_true_eq]
      exact fun e' => hk (mem_keys.2 ⟨e.2, by rw [← e']; exact he⟩)
    rw [hd]
    exact ⟨by rw [decide_eq_false hk], ⟨_, hT', h2, h3⟩, hm⟩
theorem tab_all_string (w : World) (b t : Nat) (L : List EntM) (room : Nat) (hT : TabA_string w b t L room) :
    Ret Try.prog 26 #[.pointer (some ⟨t, 0, none⟩)] w (AllA L w) := by
  obtain ⟨ls, h1, h2, h3⟩ := hT
  refine Calls.mono (table_all_string w b t ls room L.length h1) ?_
  rintro e w' ⟨v, rfl, A, c, rs, rfl, h4, h5, h6, h7, h8⟩
  obtain rfl := h2.all h4 h5
  exact ⟨_, rfl, A, c, rfl, h6, h7, h8⟩
theorem tab_len_string (w : World) (b t : Nat) (L : List EntM) (room : Nat) (hT : TabA_string w b t L room) :
    Ret Try.prog 29 #[.pointer (some ⟨t, 0, none⟩)] w fun v w' => v = .int .i64 L.length ∧ w' = w := by
  obtain ⟨ls, h1, h2, h3⟩ := hT
  exact table_len_string w b t ls room L.length h1
def Typed_box (v : List Value) : Prop := ∃ (x : Int) (a : Option Addr), v = [.int .i64 x, .pointer a]
/-- a table at t, its places at b, with what L says -/
def TabA_box (w : World) (b t : Nat) (L : List EntM) (room : Nat) : Prop :=
  ∃ ls : List PlaceM, TabW w 135 139 11 b t ls room L.length ∧ TabRel ls L room ∧ ∀ y ∈ ls, Typed_box y.v
theorem TabA_box.mod {w w' : World} {S : Nat → Prop} {b t : Nat} {L : List EntM} {room : Nat} (h : TabA_box w b t L room) (hm : Mod S w w') (hb : ¬ S b) (ht : ¬ S t) : TabA_box w' b t L room := by
  obtain ⟨ls, h1, h2, h3⟩ := h
  exact ⟨ls, ⟨hm.blk h1.row hb, hm.blk h1.tab ht, h1.ne, h1.ok, h1.pos, h1.le⟩, h2, h3⟩
theorem TabA_box.more {w w' : World} {b t : Nat} {L : List EntM} {room : Nat} (h : TabA_box w b t L room) (hm : More w w') : TabA_box w' b t L room :=
  h.mod (S := fun _ => False) (Mod.of_more hm) (fun h => h) (fun h => h)
theorem TabA_box.sorted {w : World} {b t : Nat} {L : List EntM} {room : Nat} (h : TabA_box w b t L room) : SortedM L := by obtain ⟨ls, h1, h2, h3⟩ := h; exact h2.sorted
theorem TabA_box.le {w : World} {b t : Nat} {L : List EntM} {room : Nat} (h : TabA_box w b t L room) : L.length ≤ room := by obtain ⟨ls, h1, h2, h3⟩ := h; exact h2.le
theorem TabA_box.lt {w : World} {b t : Nat} {L : List EntM} {room : Nat} (h : TabA_box w b t L room) : b < w.heap.size ∧ t < w.heap.size := by obtain ⟨ls, h1, h2, h3⟩ := h; exact ⟨h1.row.lt, h1.tab.lt⟩
theorem TabA_box.typed {w : World} {b t : Nat} {L : List EntM} {room : Nat} (h : TabA_box w b t L room) {p : PrefM} {v : List Value} (hm : (p, v) ∈ L) : Typed_box v ∧ p.addr.length = 7 := by
  obtain ⟨ls, h1, h2, h3⟩ := h
  obtain ⟨i, hi⟩ := (h2.mem _ _).1 hm
  have := List.mem_of_getElem? hi
  exact ⟨h3 _ this, (h1.ok _ this).pre⟩
theorem tab_new_box (w : World) (room : Nat) (h1 : 1 ≤ room) (h2 : room ≤ 64) : Ret Try.prog 50 #[.int .i64 room] w fun v w' => ∃ b t, v = .tuple #[.pointer (some ⟨t, 0, none⟩), .int .i64 0] ∧ w.heap.size ≤ b ∧ w.heap.size ≤ t ∧ TabA_box w' b t [] room ∧ More w w' := by
  refine Calls.mono (table_new_box w room) ?_
  rintro e w' ⟨v, rfl, hm, hyes, _⟩
  obtain ⟨b, t, n, rfl, hn, hb, hbt, hB, hQ⟩ := hyes (by omega)
  obtain rfl : n = 2 * room := by omega
  refine ⟨_, rfl, b, t, rfl, hb, by omega, ⟨_, ⟨hB, by rw [List.length_replicate]; exact hQ, by omega, ?_, by rw [List.length_replicate]; omega, by rw [List.length_replicate]; omega⟩, TabRel.new room h1 [.int .i64 0, .pointer none], ?_⟩, hm⟩
  · intro x hx
    rw [List.eq_of_mem_replicate hx]
    exact zplOk_box 0
  · intro x hx
    rw [List.eq_of_mem_replicate hx]
    exact ⟨0, none, rfl⟩
theorem tab_put_box (w : World) (b t : Nat) (L : List EntM) (room : Nat) (p : PrefM) (x : Int) (a : Option Addr) (hp : p.addr.length = 7) (hT : TabA_box w b t L room) (hr : room ≤ 64) :
    Ret Try.prog 56 #[.pointer (some ⟨t, 0, none⟩), .agg p.cells.toArray, .agg #[.int .i64 x, .pointer a]] w fun v w' => v = .bool (putOk L room p) ∧ TabA_box w' b t (putA L room p [.int .i64 x, .pointer a]) room ∧ Mod (two b t) w w' := by
  obtain ⟨ls, h1, h2, h3⟩ := hT
  refine Calls.mono (table_put_box w b t ls room L.length p x a hp h1 hr h2.le (fun h4 _ => h2.spot fun hk => by have := h2.hit.2 hk; omega)) ?_
  rintro e w' ⟨v, rfl, rfl, hT', hm⟩
  refine ⟨_, rfl, ?_⟩
  unfold putA putOk
  unfold putM at hT' ⊢
  by_cases hk : p ∈ keysM L
  · have h5 := h2.hit.2 hk
    rw [if_pos h5] at hT' ⊢
    simp only [hk, decide_true, Bool.true_or, if_true]
    refine ⟨trivial, ⟨_, by rw [put_len, if_pos hk]; exact hT', h2.put_in _ hk, set_typed h3 ⟨x, a, rfl⟩⟩, hm⟩
  · have h5 : ¬ 0 ≤ (findM ls p).1 := fun h => hk (h2.hit.1 h)
    rw [if_neg h5] at hT' ⊢
    have hle := h2.le
    by_cases h6 : L.length = room
    · rw [if_pos h6] at hT' ⊢
      have h7 : ¬ L.length < room := by omega
      simp only [hk, h7, decide_false, Bool.false_or, Bool.false_eq_true, if_false]
      exact ⟨trivial, ⟨_, hT', h2, h3⟩, hm⟩
    · rw [if_neg h6] at hT' ⊢
      have h7 : L.length < room := by omega
      simp only [hk, h7, decide_true, decide_false, Bool.false_or, if_true]
      exact ⟨trivial, ⟨_, by rw [put_len, if_neg hk]; exact hT', h2.put_new _ hk h6, set_typed h3 ⟨x, a, rfl⟩⟩, hm⟩
def GetA_box (L : List EntM) (p : PrefM) (w : World) (v : Value) (w' : World) : Prop :=
  (getL L p = none → v = .tuple #[.agg #[.int .i64 0, .pointer none], .bool false]) ∧ (∀ (x : Int) (a : Option Addr), getL L p = some [.int .i64 x, .pointer a] → v = .tuple #[.agg #[.int .i64 x, .pointer a], .bool true]) ∧ More w w'
theorem tab_get_box (w : World) (b t : Nat) (L : List EntM) (room : Nat) (p : PrefM) (hp : p.addr.length = 7) (hT : TabA_box w b t L room) :
    Ret Try.prog 53 #[.pointer (some ⟨t, 0, none⟩), .agg p.cells.toArray] w (GetA_box L p w) := by
  obtain ⟨ls, h1, h2, h3⟩ := hT
  refine Calls.mono (table_get_box w b t ls room L.length p hp h1 h3) ?_
  rintro e w' ⟨v, rfl, h4, h5, hm⟩
  refine ⟨_, rfl, fun hn => h4 ?_, ?_, hm⟩
  · rcases Int.lt_or_le (findM ls p).1 0 with h6 | h6
    · exact h6
    · obtain ⟨u, hu⟩ := mem_keys.1 (h2.hit.1 h6)
      rw [get_some h2.sorted hu] at hn
      cases hn
  · intro x a hg
    have hk : p ∈ keysM L := by
      rcases Classical.em (p ∈ keysM L) with h6 | h6
      · exact h6
      · rw [get_none h6] at hg; cases hg
    obtain ⟨i, hi, hil, y, hy, hy1, hyp⟩ := find_hit h2.lpos (h2.hit.2 hk)
    have hu : (p, y.v) ∈ L := (h2.mem _ _).2 ⟨i, by rw [hy, ← hyp, ← hy1]⟩
    rw [get_some h2.sorted hu] at hg
    exact h5 i y hi hy x a (Option.some.inj hg)
theorem tab_del_box (w : World) (b t : Nat) (L : List EntM) (room : Nat) (p : PrefM) (hp : p.addr.length = 7) (hT : TabA_box w b t L room) (hr : room ≤ 64) :
    Ret Try.prog 57 #[.pointer (some ⟨t, 0, none⟩), .agg p.cells.toArray] w fun v w' => v = .bool (decide (p ∈ keysM L)) ∧ TabA_box w' b t (delL L p) room ∧ Mod (two b t) w w' := by
  obtain ⟨ls, h1, h2, h3⟩ := hT
  have hpos : p ∈ keysM L → 1 ≤ L.length := fun hk => by
    cases L with
    | nil => cases hk
    | cons => simp
  refine Calls.mono (table_del_box w b t ls room L.length p hp h1 hr h2.le (fun h => hpos (h2.hit.1 h))) ?_
  rintro e w' ⟨v, rfl, rfl, hT', hm⟩
  refine ⟨_, rfl, ?_⟩
  unfold delM at hT' ⊢
  have hdl := del_len h2.sorted p
  by_cases hk : p ∈ keysM L
  · rw [if_pos (h2.hit.2 hk)] at hT' ⊢
    rw [if_pos hk] at hdl
    by_cases h6 : L.length = 1
    · rw [if_pos h6] at hT' ⊢
      have hnil : delL L p = [] := List.eq_nil_of_length_eq_zero (by omega)
      rw [hnil]
      refine ⟨by rw [decide_eq_true hk], ⟨_, hT', by rw [h2.len]; exact TabRel.new room h2.pos [.int .i64 0, .pointer none], ?_⟩, hm⟩
      intro x hx
      rw [List.eq_of_mem_replicate hx]
      exact ⟨0, none, rfl⟩
    · rw [if_neg h6] at hT' ⊢
      exact ⟨by rw [decide_eq_true hk], ⟨_, by rw [hdl]; exact hT', h2.del [.int .i64 0, .pointer none] hk, set_typed h3 ⟨0, none, rfl⟩⟩, hm⟩
  · rw [if_neg (fun h => hk (h2.hit.1 h))] at hT' ⊢
    have hd : delL L p = L := by
      unfold delL
      rw [List.filter_eq_self]
      intro e he
      simp only [ne_eq, decide_eq_true_eq]
      exact fun e' => hk (mem_keys.2 ⟨e.2, by rw [← e']; exact he⟩)
    rw [hd]
    exact ⟨by rw [decide_eq_false hk], ⟨_, hT', h2, h3⟩, hm⟩
theorem tab_all_box (w : World) (b t : Nat) (L : List EntM) (room : Nat) (hT : TabA_box w b t L room) :
    Ret Try.prog 58 #[.pointer (some ⟨t, 0, none⟩)] w (AllA L w) := by
  obtain ⟨ls, h1, h2, h3⟩ := hT
  refine Calls.mono (table_all_box w b t ls room L.length h1) ?_
  rintro e w' ⟨v, rfl, A, c, rs, rfl, h4, h5, h6, h7, h8⟩
  obtain rfl := h2.all h4 h5
  exact ⟨_, rfl, A, c, rfl, h6, h7, h8⟩
end Go.Proofs.Ytimhcjakpdebjaa
