/-
  Layer 22: never more than there is room for, never more than the burst (BoxRoom).
-/
import Derived.Test.YtimhcjakpdebjaaLaw22
namespace Go.Proofs.Ytimhcjakpdebjaa
open Go Go.RowKit Go.Proofs.RV
set_option linter.unusedSimpArgs false
set_option linter.unusedVariables false
set_option maxRecDepth 10000
set_option maxHeartbeats 4000000
theorem mem_all22 {M M2 : List Nat} (hs : M2.all (M.contains ·) = true) {s : Nat} (h : s ∈ M2) : s ∈ M := by simpa using List.all_eq_true.1 hs s h
structure Act22 where
  kind : Int
  p : PrefM
  now : Int
  n : Int
def Act22.cells (a : Act22) : List Value := .int .u8 a.kind :: (a.p.cells ++ [.int .i64 a.now, .int .i64 a.n])
structure Act22.Fit (a : Act22) : Prop where
  p : a.p.addr.length = 7
  k0 : 0 ≤ a.kind
  k1 : a.kind < 256
  n0 : -9223372036854775808 ≤ a.n
  n1 : a.n ≤ 9223372036854775807
  w0 : -9223372036854775808 ≤ a.now
  w1 : a.now ≤ 9223372036854775807
theorem Act22.len {a : Act22} (h : a.Fit) : a.cells.length = 11 := by simp [Act22.cells, PrefM.cells, h.p]
theorem Act22.one (a : Act22) : ∀ u ∈ a.cells, u.oneCell' = true := by
  intro u hu
  simp only [Act22.cells, List.mem_cons, List.mem_append, List.not_mem_nil, or_false] at hu
  rcases hu with rfl | hu | rfl | rfl
  · rfl
  · exact PrefM.one _ u hu
  · rfl
  · rfl
theorem acts22_in {w : World} {k : Nat} {cs : List Value} (h : Lays Try.prog w k 68 cs) :
    ∃ (A : Option Addr) (l : List Act22) (c : Nat), cs = [.slice A l.length c] ∧ l.length ≤ c ∧ Cs w A (l.flatMap Act22.cells) ∧ (∀ a ∈ l, a.cells.length = 11) ∧ ∀ a ∈ l, a.Fit := by
  refine h.rowOf Try.underlying68 cells71 (by omega) _ fun k cs' h' hl => ?_
  obtain ⟨_, f0⟩ := h'.fieldAt Try.underlying71 0 5 0 rfl cells5
  obtain ⟨_, f1⟩ := h'.fieldAt Try.underlying71 1 24 1 rfl cells24
  obtain ⟨_, f2⟩ := h'.fieldAt Try.underlying71 2 2 9 rfl cells2
  obtain ⟨_, f3⟩ := h'.fieldAt Try.underlying71 3 2 10 rfl cells2
  obtain ⟨x, e0, r0⟩ := f0.int Try.underlying5
  obtain ⟨p, e1, hp⟩ := pref_in f1
  obtain ⟨y, e2, r2⟩ := f2.int Try.underlying2
  obtain ⟨z, e3, r3⟩ := f3.int Try.underlying2
  refine ⟨⟨x, p, y, z⟩, ?_, ?_⟩
  · have e : cs' = [Value.int .u8 x] ++ (p.cells ++ ([.int .i64 y] ++ [.int .i64 z])) := by
      rw [← e0, ← e1, ← e2, ← e3]
      conv => lhs; rw [← List.drop_zero (l := cs'), cut_at _ 0 1, cut_at _ (0 + 1) 8, cut_at _ (0 + 1 + 8) 1, cut_at _ (0 + 1 + 8 + 1) 1]
      rw [List.drop_eq_nil_of_le (i := 0 + 1 + 8 + 1 + 1) (by omega), List.append_nil]
    rw [e]
    rfl
  · simp [IntKind.min, IntKind.max, IntKind.signed, IntKind.bits] at r0 r2 r3
    exact ⟨hp, r0.1, by show x < 256; omega, r3.1, by show z ≤ 9223372036854775807; omega, r2.1, by show y ≤ 9223372036854775807; omega⟩
theorem zerAct22 : zer Try.prog 71 = some (.agg (Act22.mk 0 prefZ 0 0).cells.toArray) := by rw [zer71]; rfl
theorem BoxW.mod {w w' : World} {S : Nat → Prop} {x b t room : Nat} {term rate burst : Int} {L : BoxL} (h : BoxW w x b t room term rate burst L) (hm : Mod S w w') (hx : ¬ S x) (hS : ∀ k, owns b t L k → ¬ S k) : BoxW w' x b t room term rate burst L :=
  ⟨hm.blk h.box hx, h.tab.mod hm (hS b (.inl (.inl rfl))) (hS t (.inl (.inr rfl))), h.own.mod hm (fun e he => hS _ (.inr ⟨e, he, rfl⟩)), h.ne, h.room_le, h.ok⟩
theorem own_blk {w : World} {B e s n c : Nat} {x : Addr} {xs : List Value} (h : Own w B e s (some x) n c xs) : ∃ cur, Blk w x.block e cur := by
  rcases h.blk with ⟨h1, _⟩ | ⟨g, h1, _, _, cur, hc⟩
  · cases h1
  · cases h1; exact ⟨cur, hc⟩
theorem blk_type {w : World} {q e e' : Nat} {cs cs' : List Value} (h : Blk w q e cs) (h' : Blk w q e' cs') : e = e' := by
  unfold Blk at h h'
  rw [h] at h'
  injection h' with h'
  injection h' with _ h' _
/-- a row of another type than the box's parts lies elsewhere -/
theorem own_apart {w : World} {B e s n c x b t room : Nat} {term rate burst : Int} {L : BoxL} {A : Option Addr} {xs : List Value} (ho : Own w B e s A n c xs) (hB : BoxW w x b t room term rate burst L) (hlo : x < B ∧ b < B ∧ t < B) (he : e ≠ 137) :
    ∀ a, A = some a → ¬ owns b t L a.block ∧ a.block ≠ x := by
  intro a ha
  subst ha
  have h1 := (ho.atB_ge ⟨a, rfl, rfl⟩).1
  refine ⟨?_, by omega⟩
  rintro ((h | h) | ⟨d, hd, h⟩)
  · omega
  · omega
  · obtain ⟨cur, hc⟩ := own_blk ho
    rw [h] at hc
    exact he (blk_type hc (hB.own.tok d hd).1)
theorem own_apart2 {w : World} {B B' e e' s s' n n' c c' : Nat} {A A' : Option Addr} {xs xs' : List Value} (ho : Own w B e s A n c xs) (ho' : Own w B' e' s' A' n' c' xs') (he : e ≠ e') : ∀ a, A' = some a → ¬ atB A a.block := by
  rintro a rfl ⟨y, rfl, hy⟩
  obtain ⟨cur, hc⟩ := own_blk ho
  obtain ⟨cur', hc'⟩ := own_blk ho'
  rw [hy] at hc
  exact he (blk_type hc hc')
/-- who is in, and how much each has taken -/
structure RoomR (n : Nat) (m : Int) (L : BoxL) (ps : List PrefM) (ts : List Int) : Prop where
  len : ts.length = ps.length
  nodup : ps.Nodup
  keys : ∀ p, p ∈ keysM L ↔ p ∈ ps
  cnt : L.length = ps.length
  le : ps.length ≤ n
  plen : ∀ p ∈ ps, p.addr.length = 7
  each : ∀ (i : Nat) (p : PrefM) (x : Int), ps[i]? = some p → ts[i]? = some x → 0 ≤ x ∧ x ≤ m ∧ ∃ e, (p, e) ∈ L ∧ e.until_ = 1099511627781 ∧ e.tok = ⟨0, m * 1048576, (m - x) * 1048576, 5⟩
theorem RoomR.entry {n : Nat} {m : Int} {L : BoxL} {ps : List PrefM} {ts : List Int} (h : RoomR n m L ps ts) (hs : SortedM L) {e : PrefM × BoxE} (he : e ∈ L) : ∃ (i : Nat) (x : Int), ps[i]? = some e.1 ∧ ts[i]? = some x ∧ 0 ≤ x ∧ x ≤ m ∧ e.2.until_ = 1099511627781 ∧ e.2.tok = ⟨0, m * 1048576, (m - x) * 1048576, 5⟩ := by
  have hk := (h.keys e.1).1 (mem_keys.2 ⟨e.2, he⟩)
  obtain ⟨i, hi⟩ := List.getElem?_of_mem hk
  have hil := (List.getElem?_eq_some_iff.1 hi).1
  obtain ⟨x, hx⟩ : ∃ x, ts[i]? = some x := ⟨ts[i]'(by rw [h.len]; exact hil), List.getElem?_eq_getElem _⟩
  obtain ⟨h0, h1, d, hd, h2, h3⟩ := h.each i _ x hi hx
  have := SortedM.one hs (p := e.1) he hd
  exact ⟨i, x, hi, hx, h0, h1, by rw [this]; exact h2, by rw [this]; exact h3⟩
theorem RoomR.sweep {n : Nat} {m : Int} {L : BoxL} {ps : List PrefM} {ts : List Int} (h : RoomR n m L ps ts) (hs : SortedM L) : sweepL 5 L = L := by
  unfold sweepL
  rw [List.filter_eq_self]
  intro e he
  obtain ⟨i, x, _, _, _, _, hu, _⟩ := h.entry hs he
  unfold aliveB
  rw [hu]
  decide
theorem tok_new (m : Int) (h1 : 1 ≤ m) (h2 : m ≤ 1073741824) : (tok0 0 m).take 5 0 = ⟨0, m * 1048576, (m - 0) * 1048576, 5⟩ := by
  have hat : (tok0 0 m).at_ 5 = m * 1048576 := by
    unfold TokM.at_ tok0
    simp only
    rw [if_neg (by omega)]
    unfold addM mulM countM
    have : (max (0 : Int) (min (5 - 0) 4611686018427387904)) * (max 0 (min 0 4611686018427387904)) = 0 := by decide
    rw [this]
    omega
  unfold TokM.take
  have hc : (tok0 0 m).can 5 0 = true := by unfold TokM.can; rw [hat]; exact decide_eq_true (by omega)
  rw [if_pos hc, hat]
  unfold TokM.upto tok0
  simp only [TokM.mk.injEq, true_and]
  exact ⟨by omega, by decide⟩
theorem tok_can (m x n : Int) (h0 : 0 ≤ x) (h1 : x ≤ m) (h2 : m ≤ 1073741824) : (TokM.mk 0 (m * 1048576) ((m - x) * 1048576) 5).can 5 n = decide (0 ≤ n ∧ n ≤ m - x) := by
  have hat : (TokM.mk 0 (m * 1048576) ((m - x) * 1048576) 5).at_ 5 = (m - x) * 1048576 := by unfold TokM.at_; rw [if_pos (Int.le_refl 5)]
  unfold TokM.can
  rw [hat, decide_eq_decide]
  omega
theorem tok_took (m x n : Int) (h0 : 0 ≤ x) (h1 : x ≤ m) (h2 : m ≤ 1073741824) (hn : 0 ≤ n ∧ n ≤ m - x) : (TokM.mk 0 (m * 1048576) ((m - x) * 1048576) 5).take 5 n = ⟨0, m * 1048576, (m - (x + n)) * 1048576, 5⟩ := by
  have hat : (TokM.mk 0 (m * 1048576) ((m - x) * 1048576) 5).at_ 5 = (m - x) * 1048576 := by unfold TokM.at_; rw [if_pos (Int.le_refl 5)]
  unfold TokM.take
  rw [tok_can m x n h0 h1 h2, if_pos (decide_eq_true hn), hat]
  unfold TokM.upto
  simp only [TokM.mk.injEq, true_and]
  exact ⟨by omega, by decide⟩
theorem tok_not (m x n : Int) (h0 : 0 ≤ x) (h1 : x ≤ m) (h2 : m ≤ 1073741824) (hn : ¬ (0 ≤ n ∧ n ≤ m - x)) : (TokM.mk 0 (m * 1048576) ((m - x) * 1048576) 5).take 5 n = ⟨0, m * 1048576, (m - x) * 1048576, 5⟩ := by
  have hat : (TokM.mk 0 (m * 1048576) ((m - x) * 1048576) 5).at_ 5 = (m - x) * 1048576 := by unfold TokM.at_; rw [if_pos (Int.le_refl 5)]
  unfold TokM.take
  rw [tok_can m x n h0 h1 h2, if_neg (by simpa using hn)]
  unfold TokM.upto
  rw [hat]
  rfl
theorem RoomR.put {n : Nat} {m : Int} {L : BoxL} {ps : List PrefM} {ts : List Int} (h : RoomR n m L ps ts) (hs : SortedM L) {p : PrefM} (hp : p.addr.length = 7) (hn : p ∉ ps) (hl : ps.length < n) (h1 : 1 ≤ m) (h2 : m ≤ 1073741824) (q : Nat) : RoomR n m (putL L p (newE 5 1099511627776 0 m q)) (ps ++ [p]) (ts ++ [0]) := by
  have hk : p ∉ keysM L := fun hh => hn ((h.keys p).1 hh)
  refine ⟨by simp [h.len], ?_, fun r => ?_, by rw [put_len, if_neg hk, h.cnt]; simp, by simp; omega, ?_, ?_⟩
  · rw [List.nodup_append]
    refine ⟨h.nodup, by simp, ?_⟩
    intro a ha b hb e
    simp at hb
    rw [e, hb] at ha
    exact hn ha
  · rw [mem_keys, List.mem_append, List.mem_singleton, ← h.keys]
    constructor
    · rintro ⟨v, hv⟩
      rcases mem_putL.1 hv with ⟨h3, _⟩ | ⟨_, h3⟩
      · exact .inr h3
      · exact .inl (mem_keys.2 ⟨v, h3⟩)
    · rintro (h3 | h3)
      · obtain ⟨v, hv⟩ := mem_keys.1 h3
        exact ⟨v, mem_putL.2 (.inr ⟨fun e => hk (by rw [← e]; exact h3), hv⟩)⟩
      · exact ⟨_, mem_putL.2 (.inl ⟨h3, rfl⟩)⟩
  · intro r hr
    rcases List.mem_append.1 hr with h3 | h3
    · exact h.plen r h3
    · simp at h3; rw [h3]; exact hp
  · intro i r x hi hx
    rcases Nat.lt_or_ge i ps.length with h3 | h3
    · rw [List.getElem?_append_left h3] at hi
      rw [List.getElem?_append_left (by rw [h.len]; exact h3)] at hx
      obtain ⟨h4, h5, e, he, h6⟩ := h.each i r x hi hx
      exact ⟨h4, h5, e, mem_putL.2 (.inr ⟨fun e' => hn (by rw [← e']; exact List.mem_of_getElem? hi), he⟩), h6⟩
    · rw [List.getElem?_append_right h3] at hi
      rw [List.getElem?_append_right (by rw [h.len]; exact h3)] at hx
      have hi0 : i - ps.length = 0 := by have := (List.getElem?_eq_some_iff.1 hi).1; simp at this; omega
      rw [hi0] at hi
      rw [h.len, hi0] at hx
      simp at hi hx
      subst hi hx
      refine ⟨by omega, by omega, _, mem_putL.2 (.inl ⟨rfl, rfl⟩), ?_, ?_⟩
      · show addM 5 1099511627776 = 1099511627781
        unfold addM countM; decide
      · exact tok_new m h1 h2
theorem RoomR.take {n : Nat} {m : Int} {L : BoxL} {ps : List PrefM} {ts : List Int} (h : RoomR n m L ps ts) (hs : SortedM L) {i : Nat} {p : PrefM} {x : Int} (hi : ps[i]? = some p) (hx : ts[i]? = some x) (y : Int) (h2 : m ≤ 1073741824) :
    RoomR n m (takeL L p 5 y) ps (if 0 ≤ y ∧ y ≤ m - x then ts.set i (x + y) else ts) := by
  have hil := (List.getElem?_eq_some_iff.1 hi).1
  have hil2 : i < ts.length := by rw [h.len]; exact hil
  refine ⟨by split <;> simp [h.len], h.nodup, fun r => by rw [keys_take]; exact h.keys r, by unfold takeL; rw [List.length_map]; exact h.cnt, h.le, h.plen, ?_⟩
  intro j r z hj hz
  by_cases e : i = j
  · subst e
    rw [hi] at hj
    cases hj
    obtain ⟨h3, h4, d, hd, h5, h6⟩ := h.each i p x hi hx
    have hmem : (p, { d with tok := d.tok.take 5 y }) ∈ takeL L p 5 y := by
      unfold takeL
      exact List.mem_map.2 ⟨_, hd, by rw [if_pos rfl]⟩
    by_cases hc : 0 ≤ y ∧ y ≤ m - x
    · rw [if_pos hc, List.getElem?_set_self hil2] at hz
      cases hz
      exact ⟨by omega, by omega, _, hmem, h5, by rw [h6]; exact tok_took m x y h3 h4 h2 hc⟩
    · rw [if_neg hc, hx] at hz
      cases hz
      exact ⟨h3, h4, _, hmem, h5, by rw [h6]; exact tok_not m x y h3 h4 h2 hc⟩
  · have hz' : ts[j]? = some z := by
      split at hz
      · rw [List.getElem?_set_ne e] at hz; exact hz
      · exact hz
    obtain ⟨h3, h4, d, hd, h5, h6⟩ := h.each j r z hj hz'
    have hrp : r ≠ p := fun hh => e ((List.getElem?_inj hil h.nodup).1 (hi.trans (by rw [hj, hh])))
    exact ⟨h3, h4, d, by unfold takeL; exact List.mem_map.2 ⟨_, hd, by rw [if_neg hrp]⟩, h5, h6⟩
def RoomJ (l : List Act22) (n : Nat) (m : Int) (x b t B0 : Nat) (w : World) (v11 v12 v43 : Value) (w' : World) : Prop :=
  ∃ (k : Nat) (L : BoxL) (ps : List PrefM) (ts : List Int) (A A' : Option Addr) (c c' : Nat), v43 = .int .i64 k ∧ k ≤ l.length ∧ v11 = .slice A ps.length c ∧ v12 = .slice A' ts.length c' ∧
    Own w' B0 24 8 A ps.length c (ps.flatMap PrefM.cells) ∧ Own w' B0 2 1 A' ts.length c' (ts.map (Value.int .i64)) ∧ BoxW w' x b t n 1099511627776 0 m L ∧ RoomR n m L ps ts ∧ (∀ d ∈ L, w.heap.size ≤ d.2.q) ∧ B0 ≤ w'.heap.size ∧ More w w'
def FindJ22 (ps : List PrefM) (p : PrefM) (w : World) (v15 v52 : Value) (w' : World) : Prop :=
  ∃ i : Nat, v52 = .int .i64 i ∧ i ≤ ps.length ∧ ((p ∉ ps.take i ∧ v15 = .int .i64 (-1)) ∨ ∃ j, j < i ∧ ps[j]? = some p ∧ v15 = .int .i64 j) ∧ More w w'
theorem box_room (w : World) (r m0 : Int) (A0 : Option Addr) (l : List Act22) (c0 : Nat) (hr : 0 ≤ r ∧ r < 256) (hm0 : 0 ≤ m0 ∧ m0 < 4294967296) (hA0 : Cs w A0 (l.flatMap Act22.cells)) (hO : ∀ a ∈ l, a.Fit) :
    Ret Try.prog 8 #[.int .u8 r, .int .u32 m0, .slice A0 l.length c0] w fun v w' => v = .bool true ∧ More w w' := by
  refine ret_of Try.func8 rfl (by kernel_rfl) (Nat.le_of_ble_eq_true (by kernel_rfl)) ?_
  simp (config := {maxSteps := 1000000}) only [↓zvN, zvU, ↓up_apply, ↓hv_apply, ↓upO_some, ↓upO_none, ↓ev_tmp, ↓ev_const, ↓ev_func, ↓ev_global, init, Nat.reduceEqDiff, Nat.reduceAdd, Nat.reduceMul, Nat.reduceSub, ↓reduceIte, Int.reduceEq, Int.reduceNe, Nat.reduceLeDiff, one, Value.cells, Int.reduceLE, Int.reduceLT, Int.reduceToNat, add_mk, reduceCtorEq, List.mem_range'_1, true_and, and_true, and_false, false_and, Nat.reduceLT, Nat.reduceLeDiff, tyF]
  refine call_ok Try.call30 (awake22 _) ?_
  rintro _ w1 ⟨rfl, hm1⟩
  by_cases h200 : (100 : Int) < (l.length : Int)
  · simp (config := {maxSteps := 1000000}) only [↓zvN, zvU, ↓up_apply, ↓hv_apply, ↓upO_some, ↓upO_none, ↓ev_tmp, ↓ev_const, ↓ev_func, ↓ev_global, init, Nat.reduceEqDiff, Nat.reduceAdd, Nat.reduceMul, Nat.reduceSub, ↓reduceIte, Int.reduceEq, Int.reduceNe, Nat.reduceLeDiff, one, Value.cells, Int.reduceLE, Int.reduceLT, Int.reduceToNat, add_mk, reduceCtorEq, List.mem_range'_1, true_and, and_true, and_false, false_and, Nat.reduceLT, Nat.reduceLeDiff, tyF, h200]
    refine call_ok Try.call30 (awake22 _) ?_
    rintro _ w2 ⟨rfl, hm2⟩
    simp (config := {maxSteps := 1000000}) only [↓zvN, zvU, ↓up_apply, ↓hv_apply, ↓upO_some, ↓upO_none, ↓ev_tmp, ↓ev_const, ↓ev_func, ↓ev_global, init, Nat.reduceEqDiff, Nat.reduceAdd, Nat.reduceMul, Nat.reduceSub, ↓reduceIte, Int.reduceEq, Int.reduceNe, Nat.reduceLeDiff, one, Value.cells, Int.reduceLE, Int.reduceLT, Int.reduceToNat, add_mk, reduceCtorEq, List.mem_range'_1, true_and, and_true, and_false, false_and, Nat.reduceLT, Nat.reduceLeDiff, tyF]
    exact ⟨rfl, hm1.trans hm2⟩
  have hl : l.length ≤ 100 := by omega
  have hlens : ∀ a ∈ l, a.cells.length = 11 := fun a ha => Act22.len (hO a ha)
  obtain ⟨n, hn⟩ : ∃ n : Nat, (n : Int) = 1 + r % 64 := ⟨(1 + r % 64).toNat, by omega⟩
  obtain ⟨m, hm⟩ : ∃ m : Int, m = 1 + m0 % 1073741824 := ⟨_, rfl⟩
  have e1 : IntKind.i64.wrap r = r := w64 (by omega) (by omega)
  have e2 : Int.tmod r 64 = r % 64 := Int.tmod_eq_emod_of_nonneg hr.1
  have e3 : IntKind.i64.wrap (r % 64) = r % 64 := w64 (by omega) (by omega)
  have e4 : IntKind.i64.wrap (1 + r % 64) = (n : Int) := by rw [← hn]; exact w64 (by omega) (by omega)
  have e5 : IntKind.i64.wrap m0 = m0 := w64 (by omega) (by omega)
  have e6 : Int.tmod m0 1073741824 = m0 % 1073741824 := Int.tmod_eq_emod_of_nonneg hm0.1
  have e7 : IntKind.i64.wrap (m0 % 1073741824) = m0 % 1073741824 := w64 (by omega) (by omega)
  have e8 : IntKind.i64.wrap (1 + m0 % 1073741824) = m := by rw [← hm]; exact w64 (by omega) (by omega)
  have hm1' : 1 ≤ m ∧ m ≤ 1073741824 := by omega
  simp (config := {maxSteps := 1000000}) only [↓zvN, zvU, ↓up_apply, ↓hv_apply, ↓upO_some, ↓upO_none, ↓ev_tmp, ↓ev_const, ↓ev_func, ↓ev_global, init, Nat.reduceEqDiff, Nat.reduceAdd, Nat.reduceMul, Nat.reduceSub, ↓reduceIte, Int.reduceEq, Int.reduceNe, Nat.reduceLeDiff, one, Value.cells, Int.reduceLE, Int.reduceLT, Int.reduceToNat, add_mk, reduceCtorEq, List.mem_range'_1, true_and, and_true, and_false, false_and, Nat.reduceLT, Nat.reduceLeDiff, tyF, h200, e1, e2, e3, e4, e5, e6, e7, e8]
  refine call_ok Try.call31 (box_newW w1 n 1099511627776 0 m ⟨by omega, by omega, by unfold tokOk; omega⟩) ?_
  rintro _ w2 ⟨x, b, t, rfl, hx, hb, ht, hB2, hm2⟩
  have hm12 := hm1.trans hm2
  have hsz := hm1.size
  obtain ⟨B0, hB0⟩ : ∃ B0, B0 = w2.heap.size := ⟨_, rfl⟩
  have hlo : x < B0 ∧ b < B0 ∧ t < B0 := by have h1 := hB2.box.lt; have h2 := hB2.tab.lt; omega
  clear hn hm
  simp (config := {maxSteps := 1000000}) only [↓zvN, zvU, ↓up_apply, ↓hv_apply, ↓upO_some, ↓upO_none, ↓ev_tmp, ↓ev_const, ↓ev_func, ↓ev_global, init, Nat.reduceEqDiff, Nat.reduceAdd, Nat.reduceMul, Nat.reduceSub, ↓reduceIte, Int.reduceEq, Int.reduceNe, Nat.reduceLeDiff, one, Value.cells, Int.reduceLE, Int.reduceLT, Int.reduceToNat, add_mk, reduceCtorEq, List.mem_range'_1, true_and, and_true, and_false, false_and, Nat.reduceLT, Nat.reduceLeDiff, tyF]
  refine loop_p (11 :: 12 :: 13 :: 14 :: 15 :: 16 :: 17 :: 18 :: List.range' 43 103) (fun e w' => RoomJ l n m x b t B0 w (e 11) (e 12) (e 43) w') (fun e _ => l.length - (numOf (e 43)).toNat) ?_ ?_
  · refine ⟨0, [], [], [], none, none, 0, 0, by simp only [hv_apply, up_apply, upO_some, upO_none, init, List.mem_cons, List.mem_range'_1, true_and, and_true, and_false, false_and, Nat.reduceLT, Nat.reduceLeDiff, Nat.reduceAdd, true_or, or_true, if_true, if_false, ↓reduceIte, Nat.reduceEqDiff, false_or, or_false, List.not_mem_nil, List.getElem?_cons_zero, List.getElem?_cons_succ, Option.getD_some] <;> rfl, by omega, by simp only [hv_apply, up_apply, upO_some, upO_none, init, List.mem_cons, List.mem_range'_1, true_and, and_true, and_false, false_and, Nat.reduceLT, Nat.reduceLeDiff, Nat.reduceAdd, true_or, or_true, if_true, if_false, ↓reduceIte, Nat.reduceEqDiff, false_or, or_false, List.not_mem_nil, List.getElem?_cons_zero, List.getElem?_cons_succ, Option.getD_some] <;> rfl, by simp only [hv_apply, up_apply, upO_some, upO_none, init, List.mem_cons, List.mem_range'_1, true_and, and_true, and_false, false_and, Nat.reduceLT, Nat.reduceLeDiff, Nat.reduceAdd, true_or, or_true, if_true, if_false, ↓reduceIte, Nat.reduceEqDiff, false_or, or_false, List.not_mem_nil, List.getElem?_cons_zero, List.getElem?_cons_succ, Option.getD_some] <;> rfl, Own.nil _ _ _ _, Own.nil _ _ _ _, hB2, ⟨rfl, List.nodup_nil, fun p => by simp [keysM], rfl, Nat.zero_le _, fun p hp => (by cases hp), fun i p x hi => (by simp at hi)⟩, (fun d hd => by cases hd), by omega, hm12⟩
  rintro v w3 ⟨k, L, ps, ts, A, A', c, c', h43, hk, h11, h12, ho, ho', hB3, hR, hql, hbw, hm3⟩
  simp only [hv_apply, up_apply, upO_some, upO_none, init, List.mem_cons, List.mem_range'_1, true_and, and_true, and_false, false_and, Nat.reduceLT, Nat.reduceLeDiff, Nat.reduceAdd, true_or, or_true, if_true, if_false, ↓reduceIte, Nat.reduceEqDiff, false_or, or_false, List.not_mem_nil, List.getElem?_cons_zero, List.getElem?_cons_succ, Option.getD_some] at h43 h11 h12
  have ek : IntKind.i64.wrap ((k : Int) + 1) = ((k + 1 : Nat) : Int) := w64 (by omega) (by omega)
  have hpn := hR.le
  have hn64 : n ≤ 64 := hB3.room_le
  simp (config := {maxSteps := 1000000}) only [↓zvN, zvU, ↓up_apply, ↓hv_apply, ↓upO_some, ↓upO_none, ↓ev_tmp, ↓ev_const, ↓ev_func, ↓ev_global, init, Nat.reduceEqDiff, Nat.reduceAdd, Nat.reduceMul, Nat.reduceSub, ↓reduceIte, Int.reduceEq, Int.reduceNe, Nat.reduceLeDiff, one, Value.cells, Int.reduceLE, Int.reduceLT, Int.reduceToNat, add_mk, reduceCtorEq, List.mem_range'_1, true_and, and_true, and_false, false_and, Nat.reduceLT, Nat.reduceLeDiff, tyF, h43]
  refine ⟨fun h9 => ?_, fun h9 => ?_⟩
  rotate_left
  · try simp (config := {maxSteps := 1000000}) only [↓zvN, zvU, ↓up_apply, ↓hv_apply, ↓upO_some, ↓upO_none, ↓ev_tmp, ↓ev_const, ↓ev_func, ↓ev_global, init, Nat.reduceEqDiff, Nat.reduceAdd, Nat.reduceMul, Nat.reduceSub, ↓reduceIte, Int.reduceEq, Int.reduceNe, Nat.reduceLeDiff, one, Value.cells, Int.reduceLE, Int.reduceLT, Int.reduceToNat, add_mk, reduceCtorEq, List.mem_range'_1, true_and, and_true, and_false, false_and, Nat.reduceLT, Nat.reduceLeDiff, tyF]
    refine call_ok Try.call36 (box_all w3 x b t n _ 0 m L 5 hB3) ?_
    rintro _ w4 ⟨A4, c4, rfl, _, _, _, hm4⟩
    rw [hR.sweep hB3.sorted, hR.cnt]
    have hpI : (ps.length : Int) ≤ (n : Int) := by omega
    simp (config := {maxSteps := 1000000}) only [↓zvN, zvU, ↓up_apply, ↓hv_apply, ↓upO_some, ↓upO_none, ↓ev_tmp, ↓ev_const, ↓ev_func, ↓ev_global, init, Nat.reduceEqDiff, Nat.reduceAdd, Nat.reduceMul, Nat.reduceSub, ↓reduceIte, Int.reduceEq, Int.reduceNe, Nat.reduceLeDiff, one, Value.cells, Int.reduceLE, Int.reduceLT, Int.reduceToNat, add_mk, reduceCtorEq, List.mem_range'_1, true_and, and_true, and_false, false_and, Nat.reduceLT, Nat.reduceLeDiff, tyF, h11, e4, hpI]
    have h1 := hm12.size
    exact ⟨rfl, two_more hm3 hm4 (by omega) (by omega)⟩
  obtain ⟨a, ha⟩ := row_nat l k (by omega)
  obtain ⟨ad, rfl⟩ := hA0.some_of (by rw [row_len l hlens]; omega)
  have haf := hO a (List.mem_of_getElem? ha)
  have rd := (hA0.more hm3).rowEq hlens ha
  have g0 : (0 : Int) ≤ (k : Int) := by omega
  simp (config := {maxSteps := 1000000}) only [↓zvN, zvU, ↓up_apply, ↓hv_apply, ↓upO_some, ↓upO_none, ↓ev_tmp, ↓ev_const, ↓ev_func, ↓ev_global, init, Nat.reduceEqDiff, Nat.reduceAdd, Nat.reduceMul, Nat.reduceSub, ↓reduceIte, Int.reduceEq, Int.reduceNe, Nat.reduceLeDiff, one, Value.cells, Int.reduceLE, Int.reduceLT, Int.reduceToNat, add_mk, reduceCtorEq, List.mem_range'_1, true_and, and_true, and_false, false_and, Nat.reduceLT, Nat.reduceLeDiff, tyF, h43, g0, h9, rd, Int.toNat_natCast, zerAct22]
  have hm4 := more_alloc w3 (.cells (Act22.mk 0 prefZ 0 0).cells.toArray 71)
  have hb4 := Blk.new w3 71 (Act22.mk 0 prefZ 0 0).cells.toArray
  obtain ⟨w4, hw4⟩ : ∃ w4, w3.alloc (.cells (Act22.mk 0 prefZ 0 0).cells.toArray 71) = w4 := ⟨_, rfl⟩
  rw [hw4] at hm4 hb4 ⊢
  clear hw4
  refine st_all hb4 (by simpa using Act22.len haf) rfl (by simpa using Act22.one a) fun w5 j1 j2 => ?_
  rw [s2_undef]
  rw [List.toList_toArray] at j2
  have hm5 : More w3 w5 := more_but hm4 (But.of_wr j1) (Nat.le_refl _)
  have hab3 : ∀ k, owns b t L k → k < w3.heap.size := by rintro k ((h | h) | ⟨d, hd, h⟩); rw [h]; exact hB3.tab.lt.1; rw [h]; exact hB3.tab.lt.2; rw [h]; exact (hB3.own.tok d hd).1.lt
  obtain ⟨ab, hab⟩ : ∃ q, w3.heap.size = q := ⟨_, rfl⟩
  rw [hab] at j2 hab3 ⊢
  have hno : ¬ owns b t L ab := fun h => by have := hab3 _ h; omega
  have h8 : a.p.cells.length = 8 := by simp [PrefM.cells, haf.p]
  have d0 : ∀ {w' : World}, Blk w' ab 71 a.cells → w'.cell? ⟨ab, 0, none⟩ = some (.int .u8 a.kind) := fun h => by rw [h.cell]; rfl
  have d1 : ∀ {w' : World}, Blk w' ab 71 a.cells → ∀ K : Value → Prop, ldRow 8 ⟨ab, 1, none⟩ w' K = K (.agg a.p.cells.toArray) := fun h K => by
    rw [h.row_eq 1 8 (by rw [Act22.len haf]; omega)]
    congr 2
    simp only [Act22.cells, List.drop_succ_cons, List.drop_zero]
    rw [List.take_append_of_le_length (by omega), List.take_of_length_le (by omega)]
  have d10 : ∀ {w' : World}, Blk w' ab 71 a.cells → w'.cell? ⟨ab, 10, none⟩ = some (.int .i64 a.n) := fun h => by
    rw [h.cell, Act22.cells, List.getElem?_cons_succ, List.getElem?_append_right (by omega), h8]
    rfl
  simp (config := {maxSteps := 1000000}) only [↓zvN, zvU, ↓up_apply, ↓hv_apply, ↓upO_some, ↓upO_none, ↓ev_tmp, ↓ev_const, ↓ev_func, ↓ev_global, init, Nat.reduceEqDiff, Nat.reduceAdd, Nat.reduceMul, Nat.reduceSub, ↓reduceIte, Int.reduceEq, Int.reduceNe, Nat.reduceLeDiff, one, Value.cells, Int.reduceLE, Int.reduceLT, Int.reduceToNat, add_mk, reduceCtorEq, List.mem_range'_1, true_and, and_true, and_false, false_and, Nat.reduceLT, Nat.reduceLeDiff, tyF, h11]
  refine loop_p (15 :: 16 :: List.range' 52 12) (fun e w' => FindJ22 ps a.p w5 (e 15) (e 52) w') (fun e _ => ps.length - (numOf (e 52)).toNat) ?_ ?_
  · exact ⟨0, by simp only [hv_apply, up_apply, upO_some, upO_none, init, List.mem_cons, List.mem_range'_1, true_and, and_true, and_false, false_and, Nat.reduceLT, Nat.reduceLeDiff, Nat.reduceAdd, true_or, or_true, if_true, if_false, ↓reduceIte, Nat.reduceEqDiff, false_or, or_false, List.not_mem_nil, List.getElem?_cons_zero, List.getElem?_cons_succ, Option.getD_some] <;> rfl, by omega, .inl ⟨by simp, by simp only [hv_apply, up_apply, upO_some, upO_none, init, List.mem_cons, List.mem_range'_1, true_and, and_true, and_false, false_and, Nat.reduceLT, Nat.reduceLeDiff, Nat.reduceAdd, true_or, or_true, if_true, if_false, ↓reduceIte, Nat.reduceEqDiff, false_or, or_false, List.not_mem_nil, List.getElem?_cons_zero, List.getElem?_cons_succ, Option.getD_some] <;> rfl⟩, More.refl _⟩
  rintro v2 w6 ⟨i, h52, hi, hat, hm6⟩
  simp only [hv_apply, up_apply, upO_some, upO_none, init, List.mem_cons, List.mem_range'_1, true_and, and_true, and_false, false_and, Nat.reduceLT, Nat.reduceLeDiff, Nat.reduceAdd, true_or, or_true, if_true, if_false, ↓reduceIte, Nat.reduceEqDiff, false_or, or_false, List.not_mem_nil, List.getElem?_cons_zero, List.getElem?_cons_succ, Option.getD_some] at h52 hat
  have ei : IntKind.i64.wrap ((i : Int) + 1) = ((i + 1 : Nat) : Int) := w64 (by omega) (by omega)
  have j6 := j2.more hm6
  simp (config := {maxSteps := 1000000}) only [↓zvN, zvU, ↓up_apply, ↓hv_apply, ↓upO_some, ↓upO_none, ↓ev_tmp, ↓ev_const, ↓ev_func, ↓ev_global, init, Nat.reduceEqDiff, Nat.reduceAdd, Nat.reduceMul, Nat.reduceSub, ↓reduceIte, Int.reduceEq, Int.reduceNe, Nat.reduceLeDiff, one, Value.cells, Int.reduceLE, Int.reduceLT, Int.reduceToNat, add_mk, reduceCtorEq, List.mem_range'_1, true_and, and_true, and_false, false_and, Nat.reduceLT, Nat.reduceLeDiff, tyF, h52, h11]
  refine ⟨fun h19 => ?_, fun h19 => ?_⟩
  · obtain ⟨q, hq⟩ := row_nat ps i (by omega)
    have hps8 : ∀ q ∈ ps, q.cells.length = 8 := fun q hq => by simp [PrefM.cells, hR.plen q hq]
    have ho6 := (ho.more hm5).more hm6
    obtain ⟨aw, hAw⟩ := ho6.cs.some_of (by rw [row_len ps hps8]; omega)
    have hcs6 := ho6.cs
    rw [hAw] at hcs6
    have rq := hcs6.rowEq hps8 hq
    have la := Cs.lt' hcs6 (by rw [row_len ps hps8]; omega)
    have r1 := d1 j6
    have l6 := j6.lt
    have g0i : (0 : Int) ≤ (i : Int) := by omega
    have peq := pref_eq (hR.plen q (List.mem_of_getElem? hq)) haf.p w6
    have htk : ps.take (i + 1) = ps.take i ++ [q] := by rw [List.take_add_one, hq]; rfl
    by_cases e : q = a.p
    · have peq2 : ∀ ox oy K, _ := fun ox oy K => (peq ox oy K).trans (show _ = K (.bool true) by simp only [e, decide_true])
      simp (config := {maxSteps := 1000000}) only [↓zvN, zvU, ↓up_apply, ↓hv_apply, ↓upO_some, ↓upO_none, ↓ev_tmp, ↓ev_const, ↓ev_func, ↓ev_global, init, Nat.reduceEqDiff, Nat.reduceAdd, Nat.reduceMul, Nat.reduceSub, ↓reduceIte, Int.reduceEq, Int.reduceNe, Nat.reduceLeDiff, one, Value.cells, Int.reduceLE, Int.reduceLT, Int.reduceToNat, add_mk, reduceCtorEq, List.mem_range'_1, true_and, and_true, and_false, false_and, Nat.reduceLT, Nat.reduceLeDiff, tyF, h52, h11, g0i, h19, hAw]
      refine draw_calm mixed (by kernel_rfl) ?_
      simp (config := {maxSteps := 1000000}) only [↓zvN, zvU, ↓zqD, ↓up_apply, ↓hv_apply, ↓upO_some, ↓upO_none, ↓ev_tmp, ↓ev_const, ↓ev_func, ↓ev_global, init, Nat.reduceEqDiff, Nat.reduceAdd, Nat.reduceMul, Nat.reduceSub, ↓reduceIte, Int.reduceEq, Int.reduceNe, Nat.reduceLeDiff, one, Value.cells, Int.reduceLE, Int.reduceLT, Int.reduceToNat, add_mk, reduceCtorEq, List.mem_range'_1, true_and, and_true, and_false, false_and, Nat.reduceLT, Nat.reduceLeDiff, tyF, h52, h11, hAw, g0i, h19, addr_zero, rq, r1, la, l6, peq2, Int.toNat_natCast]
      intro w7 hm7
      simp (config := {maxSteps := 1000000}) only [↓zvN, zvU, ↓up_apply, ↓hv_apply, ↓upO_some, ↓upO_none, ↓ev_tmp, ↓ev_const, ↓ev_func, ↓ev_global, init, Nat.reduceEqDiff, Nat.reduceAdd, Nat.reduceMul, Nat.reduceSub, ↓reduceIte, Int.reduceEq, Int.reduceNe, Nat.reduceLeDiff, one, Value.cells, Int.reduceLE, Int.reduceLT, Int.reduceToNat, add_mk, reduceCtorEq, List.mem_range'_1, true_and, and_true, and_false, false_and, Nat.reduceLT, Nat.reduceLeDiff, tyF, h52, ei]
      refine ⟨⟨?_, i + 1, rfl, by omega, .inr ⟨i, by omega, by rw [hq, e], rfl⟩, hm6.trans hm7⟩, by simp only [numOf]; omega⟩
      repeat (first | exact Same.hv _ _ _ | refine Same.up (by simp) ?_)
    · have peq2 : ∀ ox oy K, _ := fun ox oy K => (peq ox oy K).trans (show _ = K (.bool false) by simp only [e, decide_false])
      simp (config := {maxSteps := 1000000}) only [↓zvN, zvU, ↓up_apply, ↓hv_apply, ↓upO_some, ↓upO_none, ↓ev_tmp, ↓ev_const, ↓ev_func, ↓ev_global, init, Nat.reduceEqDiff, Nat.reduceAdd, Nat.reduceMul, Nat.reduceSub, ↓reduceIte, Int.reduceEq, Int.reduceNe, Nat.reduceLeDiff, one, Value.cells, Int.reduceLE, Int.reduceLT, Int.reduceToNat, add_mk, reduceCtorEq, List.mem_range'_1, true_and, and_true, and_false, false_and, Nat.reduceLT, Nat.reduceLeDiff, tyF, h52, h11, g0i, h19, hAw]
      refine draw_calm mixed (by kernel_rfl) ?_
      simp (config := {maxSteps := 1000000}) only [↓zvN, zvU, ↓zqD, ↓up_apply, ↓hv_apply, ↓upO_some, ↓upO_none, ↓ev_tmp, ↓ev_const, ↓ev_func, ↓ev_global, init, Nat.reduceEqDiff, Nat.reduceAdd, Nat.reduceMul, Nat.reduceSub, ↓reduceIte, Int.reduceEq, Int.reduceNe, Nat.reduceLeDiff, one, Value.cells, Int.reduceLE, Int.reduceLT, Int.reduceToNat, add_mk, reduceCtorEq, List.mem_range'_1, true_and, and_true, and_false, false_and, Nat.reduceLT, Nat.reduceLeDiff, tyF, h52, h11, hAw, g0i, h19, addr_zero, rq, r1, la, l6, peq2, Int.toNat_natCast]
      intro w7 hm7
      try simp (config := {maxSteps := 1000000}) only [↓zvN, zvU, ↓up_apply, ↓hv_apply, ↓upO_some, ↓upO_none, ↓ev_tmp, ↓ev_const, ↓ev_func, ↓ev_global, init, Nat.reduceEqDiff, Nat.reduceAdd, Nat.reduceMul, Nat.reduceSub, ↓reduceIte, Int.reduceEq, Int.reduceNe, Nat.reduceLeDiff, one, Value.cells, Int.reduceLE, Int.reduceLT, Int.reduceToNat, add_mk, reduceCtorEq, List.mem_range'_1, true_and, and_true, and_false, false_and, Nat.reduceLT, Nat.reduceLeDiff, tyF, h52, ei]
      refine ⟨⟨?_, i + 1, rfl, by omega, ?_, hm6.trans hm7⟩, by simp only [numOf]; omega⟩
      · repeat (first | exact Same.hv _ _ _ | refine Same.up (by simp) ?_)
      · rcases hat with ⟨hnot, h15⟩ | ⟨j, hj, hpj, h15⟩
        · exact .inl ⟨by rw [htk]; simp [hnot]; exact fun h => e h.symm, h15⟩
        · exact .inr ⟨j, by omega, hpj, h15⟩
  obtain rfl : i = ps.length := by omega
  rw [List.take_length] at hat
  have hm35 := hm3.trans hm5
  have hm36 := hm35.trans hm6
  have hB6 := (hB3.more hm5).more hm6
  have hR6 := hR.sweep hB3.sorted
  have ho6 := (ho.more hm5).more hm6
  have ho6' := (ho'.more hm5).more hm6
  have e0 := d0 j6
  have r1 := d1 j6
  have c10 := d10 j6
  have hap := own_apart ho6 hB6 hlo (by decide)
  have hap' := own_apart ho6' hB6 hlo (by decide)
  have wk : IntKind.u8.wrap (Int.tmod a.kind 2) = Int.tmod a.kind 2 := by
    have h0 := haf.k0
    rw [Int.tmod_eq_emod_of_nonneg h0]
    exact wu8 (by omega) (by omega)
  have two_owns : ∀ k, two b t k → owns b t L k := fun k h => .inl h
  have tf : (true == false) = false := rfl
  have ft : (false == true) = false := rfl
  have tt : (true == true) = true := rfl
  have ff : (false == false) = true := rfl
  clear h52 ei hi h19
  by_cases hk2 : Int.tmod a.kind 2 = 0
  · have hcode : putCode 5 L n a.p = if a.p ∈ keysM L then 7 else if L.length < n then 0 else 6 := by unfold putCode; rw [hR6]
    have hputB : ∀ e, putB 5 L n a.p e = if a.p ∈ keysM L then L else if L.length < n then putL L a.p e else L := fun e => by unfold putB; rw [hR6]
    simp (config := {maxSteps := 1000000}) only [↓zvN, zvU, ↓up_apply, ↓hv_apply, ↓upO_some, ↓upO_none, ↓ev_tmp, ↓ev_const, ↓ev_func, ↓ev_global, init, Nat.reduceEqDiff, Nat.reduceAdd, Nat.reduceMul, Nat.reduceSub, ↓reduceIte, Int.reduceEq, Int.reduceNe, Nat.reduceLeDiff, one, Value.cells, Int.reduceLE, Int.reduceLT, Int.reduceToNat, add_mk, reduceCtorEq, List.mem_range'_1, true_and, and_true, and_false, false_and, Nat.reduceLT, Nat.reduceLeDiff, tyF, e0, hk2, wk, r1]
    refine call_ok Try.call32 (box_put w6 x b t n _ 0 m L a.p 5 haf.p hB6 (by omega)) ?_
    rintro _ w7 ⟨q, hq, rfl, hB7, hm7⟩
    have hm37 : More w w7 := two_more hm36 hm7 (by omega) (by omega)
    have ho7 := hm7.own ho6 (fun x hx h => (hap x hx).1 (two_owns _ h))
    have ho7' := hm7.own ho6' (fun x hx h => (hap' x hx).1 (two_owns _ h))
    have j7 := hm7.blk j6 (fun h => hno (two_owns _ h))
    have r7 := d1 j7
    rw [hcode]
    rw [hputB] at hB7
    rcases hat with ⟨hnot, h15⟩ | ⟨j, hj, hpj, h15⟩
    · have hkn : a.p ∉ keysM L := fun h => hnot ((hR.keys _).1 h)
      rw [if_neg hkn] at hB7 ⊢
      rw [hR.cnt] at hB7 ⊢
      by_cases hfull : ps.length < n
      · rw [if_pos hfull] at hB7 ⊢
        have hfI : (ps.length : Int) < (n : Int) := by omega
        simp (config := {maxSteps := 1000000}) only [↓zvN, zvU, ↓up_apply, ↓hv_apply, ↓upO_some, ↓upO_none, ↓ev_tmp, ↓ev_const, ↓ev_func, ↓ev_global, init, Nat.reduceEqDiff, Nat.reduceAdd, Nat.reduceMul, Nat.reduceSub, ↓reduceIte, Int.reduceEq, Int.reduceNe, Nat.reduceLeDiff, one, Value.cells, Int.reduceLE, Int.reduceLT, Int.reduceToNat, add_mk, reduceCtorEq, List.mem_range'_1, true_and, and_true, and_false, false_and, Nat.reduceLT, Nat.reduceLeDiff, tyF, h15, h11, h12, e4, hfI, tt, ff, tf, ft, r7]
        have hap7 := own_apart ho7 hB7 hlo (by decide)
        have hap7' := own_apart ho7' hB7 hlo (by decide)
        have hs7 := hm37.size
        have hB0w : B0 ≤ w7.heap.size := by have h1 := hm7.size; have h2 := hm6.size; have h3 := hm5.size; omega
        refine bslice1 Try.underlying39 prefE (by omega) (by omega) h8 ?_
        have hm8 := more_alloc w7 (.cells a.p.cells.toArray 24)
        have hb8 := Blk.new w7 24 a.p.cells.toArray
        obtain ⟨w8, hw8⟩ : ∃ w8, w7.alloc (.cells a.p.cells.toArray 24) = w8 := ⟨_, rfl⟩
        rw [hw8] at hm8 hb8 ⊢
        clear hw8
        rw [List.toList_toArray] at hb8
        simp (config := {maxSteps := 1000000}) only [↓zvN, zvU, ↓up_apply, ↓hv_apply, ↓upO_some, ↓upO_none, ↓ev_tmp, ↓ev_const, ↓ev_func, ↓ev_global, init, Nat.reduceEqDiff, Nat.reduceAdd, Nat.reduceMul, Nat.reduceSub, ↓reduceIte, Int.reduceEq, Int.reduceNe, Nat.reduceLeDiff, one, Value.cells, Int.reduceLE, Int.reduceLT, Int.reduceToNat, add_mk, reduceCtorEq, List.mem_range'_1, true_and, and_true, and_false, false_and, Nat.reduceLT, Nat.reduceLeDiff, tyF, h11, h12]
        have hs8 := hm8.size
        refine app_mod (B := B0) (m := 1) (news := a.p.cells) Try.underlying39 prefE rfl (by omega) (ho7.more hm8) hb8.cs (by rw [h8]) (PrefM.one _) (by simp only [maxLen]; omega) (by omega) (by omega) ?_
        intro A9 c9 w9 ho9 hmd9 _
        have hB9 := (hB7.more hm8).mod hmd9 (fun ⟨y, hy, h⟩ => (hap7 y hy).2 h) (fun j hj ⟨y, hy, h⟩ => (hap7 y hy).1 (by rw [h]; exact hj))
        have ho9' := hmd9.own (ho7'.more hm8) (own_apart2 (ho7.more hm8) (ho7'.more hm8) (by decide))
        have hm39 : More w w9 := Mod.more (hm37.trans hm8) hmd9 (fun j hj h => by have := (ho7.atB_ge h).1; have := hm12.size; omega)
        simp (config := {maxSteps := 1000000}) only [↓zvN, zvU, ↓up_apply, ↓hv_apply, ↓upO_some, ↓upO_none, ↓ev_tmp, ↓ev_const, ↓ev_func, ↓ev_global, init, Nat.reduceEqDiff, Nat.reduceAdd, Nat.reduceMul, Nat.reduceSub, ↓reduceIte, Int.reduceEq, Int.reduceNe, Nat.reduceLeDiff, one, Value.cells, Int.reduceLE, Int.reduceLT, Int.reduceToNat, add_mk, reduceCtorEq, List.mem_range'_1, true_and, and_true, and_false, false_and, Nat.reduceLT, Nat.reduceLeDiff, tyF, h11, h12]
        refine bslice (z := .int .i64 0) (cells := #[.int .i64 0]) Try.underlying69 int64E2 (by omega) (by have := bcells_list (z := .int .i64 0) [.int .i64 0] (by intro v hv; simp at hv; rcases hv with rfl; rfl); exact this) ?_
        have hm10 := more_alloc w9 (.cells #[.int .i64 0] 2)
        have hb10 := Blk.new w9 2 #[.int .i64 0]
        obtain ⟨w10, hw10⟩ : ∃ w10, w9.alloc (.cells #[.int .i64 0] 2) = w10 := ⟨_, rfl⟩
        rw [hw10] at hm10 hb10 ⊢
        clear hw10
        simp (config := {maxSteps := 1000000}) only [↓zvN, zvU, ↓up_apply, ↓hv_apply, ↓upO_some, ↓upO_none, ↓ev_tmp, ↓ev_const, ↓ev_func, ↓ev_global, init, Nat.reduceEqDiff, Nat.reduceAdd, Nat.reduceMul, Nat.reduceSub, ↓reduceIte, Int.reduceEq, Int.reduceNe, Nat.reduceLeDiff, one, Value.cells, Int.reduceLE, Int.reduceLT, Int.reduceToNat, add_mk, reduceCtorEq, List.mem_range'_1, true_and, and_true, and_false, false_and, Nat.reduceLT, Nat.reduceLeDiff, tyF, h11, h12]
        have hs10 := hm10.size
        have hs9 := hmd9.size
        have hlen9 := hR.len
        refine app_mod (B := B0) (m := 1) (news := [.int .i64 0]) Try.underlying69 int64E2 rfl (by omega) (ho9'.more hm10) hb10.cs rfl (by intro u hu; simp at hu; subst hu; rfl) (by simp only [maxLen]; omega) (by omega) (by omega) ?_
        intro A11 c11 w11 ho11 hmd11 _
        have hap9' := own_apart ho9' hB9 hlo (by decide)
        have hB11 := (hB9.more hm10).mod hmd11 (fun ⟨y, hy, h⟩ => (hap9' y hy).2 h) (fun j hj ⟨y, hy, h⟩ => (hap9' y hy).1 (by rw [h]; exact hj))
        have ho11' := hmd11.own (ho9.more hm10) (own_apart2 (ho9'.more hm10) (ho9.more hm10) (by decide))
        have hm311 : More w w11 := Mod.more (hm39.trans hm10) hmd11 (fun j hj h => by have := (ho9'.atB_ge h).1; have := hm12.size; omega)
        have hR11 := hR.put hB3.sorted haf.p hnot hfull hm1'.1 hm1'.2 q
        simp (config := {maxSteps := 1000000}) only [↓zvN, zvU, ↓up_apply, ↓hv_apply, ↓upO_some, ↓upO_none, ↓ev_tmp, ↓ev_const, ↓ev_func, ↓ev_global, init, Nat.reduceEqDiff, Nat.reduceAdd, Nat.reduceMul, Nat.reduceSub, ↓reduceIte, Int.reduceEq, Int.reduceNe, Nat.reduceLeDiff, one, Value.cells, Int.reduceLE, Int.reduceLT, Int.reduceToNat, add_mk, reduceCtorEq, List.mem_range'_1, true_and, and_true, and_false, false_and, Nat.reduceLT, Nat.reduceLeDiff, tyF, h43, ek]
        have hl1 : (ps ++ [a.p]).length = ps.length + 1 := by simp
        have hl2 : (ts ++ [(0 : Int)]).length = ts.length + 1 := by simp
        refine ⟨⟨?_, k + 1, putL L a.p (newE 5 1099511627776 0 m q), ps ++ [a.p], ts ++ [0], A9, A11, c9, c11, rfl, by omega, by rw [hl1], by rw [hl2], by rw [hl1]; simpa [List.flatMap_append] using ho11', by rw [hl2]; simpa using ho11, hB11, hR11, ?_, by have h1 := hmd11.size; omega, hm311⟩, by simp only [numOf]; omega⟩
        · try simp only [h200, decide_false, e1, e2, e3, e4, e5, e6, e7, e8]
          repeat (first | exact Same.hv _ _ _ | refine Same.hv2 (fun s hs => mem_all22 (by decide) hs) ?_ | refine Same.up (by simp) ?_)
        · intro d hd
          rcases mem_putL.1 (show (d.1, d.2) ∈ _ from hd) with ⟨_, h2⟩ | ⟨_, h2⟩
          · rw [h2]
            show w.heap.size ≤ q
            have := hm36.size
            omega
          · exact hql d h2
      · rw [if_neg hfull] at hB7 ⊢
        have hfI : ¬ (ps.length : Int) < (n : Int) := by omega
        simp (config := {maxSteps := 1000000}) only [↓zvN, zvU, ↓up_apply, ↓hv_apply, ↓upO_some, ↓upO_none, ↓ev_tmp, ↓ev_const, ↓ev_func, ↓ev_global, init, Nat.reduceEqDiff, Nat.reduceAdd, Nat.reduceMul, Nat.reduceSub, ↓reduceIte, Int.reduceEq, Int.reduceNe, Nat.reduceLeDiff, one, Value.cells, Int.reduceLE, Int.reduceLT, Int.reduceToNat, add_mk, reduceCtorEq, List.mem_range'_1, true_and, and_true, and_false, false_and, Nat.reduceLT, Nat.reduceLeDiff, tyF, h15, h11, h12, e4, hfI, tt, ff, tf, ft, h43, ek]
        refine ⟨⟨?_, k + 1, L, ps, ts, A, A', c, c', rfl, by omega, by first | exact h11 | rfl, by first | exact h12 | rfl, ho7, ho7', hB7, hR, hql, by have h1 := hm7.size; have h2 := hm6.size; have h3 := hm5.size; omega, hm37⟩, by simp only [numOf]; omega⟩
        try simp only [h200, decide_false, e1, e2, e3, e4, e5, e6, e7, e8]
        repeat (first | exact Same.hv _ _ _ | refine Same.hv2 (fun s hs => mem_all22 (by decide) hs) ?_ | refine Same.up (by simp) ?_)
    · have hkn : a.p ∈ keysM L := (hR.keys _).2 (List.mem_of_getElem? hpj)
      rw [if_pos hkn] at hB7 ⊢
      have j0 : (0 : Int) ≤ (j : Int) := by omega
      have j0' : ¬ (j : Int) < 0 := by omega
      simp (config := {maxSteps := 1000000}) only [↓zvN, zvU, ↓up_apply, ↓hv_apply, ↓upO_some, ↓upO_none, ↓ev_tmp, ↓ev_const, ↓ev_func, ↓ev_global, init, Nat.reduceEqDiff, Nat.reduceAdd, Nat.reduceMul, Nat.reduceSub, ↓reduceIte, Int.reduceEq, Int.reduceNe, Nat.reduceLeDiff, one, Value.cells, Int.reduceLE, Int.reduceLT, Int.reduceToNat, add_mk, reduceCtorEq, List.mem_range'_1, true_and, and_true, and_false, false_and, Nat.reduceLT, Nat.reduceLeDiff, tyF, h15, j0, j0', tt, ff, tf, ft, h43, ek]
      refine ⟨⟨?_, k + 1, L, ps, ts, A, A', c, c', rfl, by omega, by first | exact h11 | rfl, by first | exact h12 | rfl, ho7, ho7', hB7, hR, hql, by have h1 := hm7.size; have h2 := hm6.size; have h3 := hm5.size; omega, hm37⟩, by simp only [numOf]; omega⟩
      try simp only [h200, decide_false, e1, e2, e3, e4, e5, e6, e7, e8]
      repeat (first | exact Same.hv _ _ _ | refine Same.hv2 (fun s hs => mem_all22 (by decide) hs) ?_ | refine Same.up (by simp) ?_)
  · simp (config := {maxSteps := 1000000}) only [↓zvN, zvU, ↓up_apply, ↓hv_apply, ↓upO_some, ↓upO_none, ↓ev_tmp, ↓ev_const, ↓ev_func, ↓ev_global, init, Nat.reduceEqDiff, Nat.reduceAdd, Nat.reduceMul, Nat.reduceSub, ↓reduceIte, Int.reduceEq, Int.reduceNe, Nat.reduceLeDiff, one, Value.cells, Int.reduceLE, Int.reduceLT, Int.reduceToNat, add_mk, reduceCtorEq, List.mem_range'_1, true_and, and_true, and_false, false_and, Nat.reduceLT, Nat.reduceLeDiff, tyF, e0, hk2, wk, r1, c10]
    refine call_ok Try.call35 (box_take w6 x b t n _ 0 m L a.p 5 a.n haf.p hB6 (by omega) haf.n1) ?_
    rintro _ w7 ⟨rfl, hB7, hm7⟩
    rw [hR6, show max (5 : Int) 0 = 5 from rfl] at hB7
    have hm37 : More w w7 := Mod.more hm36 hm7 (fun k hk h => by
      rcases h with (h | h) | ⟨d, hd, h⟩
      · omega
      · omega
      · have := hql d hd
        omega)
    have ho7 := hm7.own ho6 (fun x hx h => (hap x hx).1 h)
    have ho7' := hm7.own ho6' (fun x hx h => (hap' x hx).1 h)
    have j7 := hm7.blk j6 hno
    have c10 := d10 j7
    have l7 := j7.lt
    rcases hat with ⟨hnot, h15⟩ | ⟨j, hj, hpj, h15⟩
    · have hkn : a.p ∉ keysM L := fun h => hnot ((hR.keys _).1 h)
      have hcan : canB 5 a.n L a.p = false := by unfold canB; rw [hR6, get_none hkn]
      rw [hcan]
      simp (config := {maxSteps := 1000000}) only [↓zvN, zvU, ↓up_apply, ↓hv_apply, ↓upO_some, ↓upO_none, ↓ev_tmp, ↓ev_const, ↓ev_func, ↓ev_global, init, Nat.reduceEqDiff, Nat.reduceAdd, Nat.reduceMul, Nat.reduceSub, ↓reduceIte, Int.reduceEq, Int.reduceNe, Nat.reduceLeDiff, one, Value.cells, Int.reduceLE, Int.reduceLT, Int.reduceToNat, add_mk, reduceCtorEq, List.mem_range'_1, true_and, and_true, and_false, false_and, Nat.reduceLT, Nat.reduceLeDiff, tyF, h15]
      refine draw_calm mixed (by kernel_rfl) ?_
      simp (config := {maxSteps := 1000000}) only [↓zvN, zvU, ↓zqD, ↓up_apply, ↓hv_apply, ↓upO_some, ↓upO_none, ↓ev_tmp, ↓ev_const, ↓ev_func, ↓ev_global, init, Nat.reduceEqDiff, Nat.reduceAdd, Nat.reduceMul, Nat.reduceSub, ↓reduceIte, Int.reduceEq, Int.reduceNe, Nat.reduceLeDiff, one, Value.cells, Int.reduceLE, Int.reduceLT, Int.reduceToNat, add_mk, reduceCtorEq, List.mem_range'_1, true_and, and_true, and_false, false_and, Nat.reduceLT, Nat.reduceLeDiff, tyF, h15, c10, l7]
      intro w8 hm8
      have htn : takeL L a.p 5 a.n = L := by
        unfold takeL
        conv => rhs; rw [← List.map_id L]
        apply List.map_congr_left
        intro e he
        rw [if_neg (fun h => hkn (mem_keys.2 ⟨e.2, by rw [← h]; exact he⟩))]
        rfl
      rw [htn] at hB7
      simp (config := {maxSteps := 1000000}) only [↓zvN, zvU, ↓up_apply, ↓hv_apply, ↓upO_some, ↓upO_none, ↓ev_tmp, ↓ev_const, ↓ev_func, ↓ev_global, init, Nat.reduceEqDiff, Nat.reduceAdd, Nat.reduceMul, Nat.reduceSub, ↓reduceIte, Int.reduceEq, Int.reduceNe, Nat.reduceLeDiff, one, Value.cells, Int.reduceLE, Int.reduceLT, Int.reduceToNat, add_mk, reduceCtorEq, List.mem_range'_1, true_and, and_true, and_false, false_and, Nat.reduceLT, Nat.reduceLeDiff, tyF, h43, ek]
      refine ⟨⟨?_, k + 1, L, ps, ts, A, A', c, c', rfl, by omega, by first | exact h11 | rfl, by first | exact h12 | rfl, ho7.more hm8, ho7'.more hm8, hB7.more hm8, hR, hql, by have h1 := hm7.size; have h2 := hm6.size; have h3 := hm5.size; have h4 := hm8.size; omega, hm37.trans hm8⟩, by simp only [numOf]; omega⟩
      try simp only [h200, decide_false, e1, e2, e3, e4, e5, e6, e7, e8]
      repeat (first | exact Same.hv _ _ _ | refine Same.hv2 (fun s hs => mem_all22 (by decide) hs) ?_ | refine Same.up (by simp) ?_)
    · have hjl := (List.getElem?_eq_some_iff.1 hpj).1
      obtain ⟨z, hz⟩ : ∃ z, ts[j]? = some z := ⟨ts[j]'(by rw [hR.len]; exact hjl), List.getElem?_eq_getElem _⟩
      have hRt := hR.take hB3.sorted hpj hz a.n hm1'.2
      obtain ⟨z0, z1, d, hd, hdu, hdt⟩ := hR.each j a.p z hpj hz
      have hcan : canB 5 a.n L a.p = decide (0 ≤ a.n ∧ a.n ≤ m - z) := by
        unfold canB
        rw [hR6, get_some hB3.sorted hd]
        simp only [show max (5 : Int) 0 = 5 from rfl]
        rw [hdt]
        exact tok_can m z a.n z0 z1 hm1'.2
      rw [hcan]
      have hlen9 := hR.len
      obtain ⟨aw, hAw⟩ := ho7'.cs.some_of (by simp; omega)
      have hcs7 := ho7'.cs
      rw [hAw] at hcs7
      have cz : w7.cell? (aw.add j) = some (.int .i64 z) := by
        obtain ⟨y, hy, hc⟩ := hcs7 j (.int .i64 z) (by rw [List.getElem?_map, hz]; rfl)
        cases hy
        exact hc
      have la := Cs.lt' hcs7 (by simp; omega)
      have j0 : (0 : Int) ≤ (j : Int) := by omega
      have j0' : ¬ (j : Int) < 0 := by omega
      have jt : (j : Int) < (ts.length : Int) := by omega
      have jt2 : j < ts.length := by omega
      have es : IntKind.i64.wrap (m - z) = m - z := w64 (by omega) (by omega)
      have hql2 : ∀ e ∈ takeL L a.p 5 a.n, w.heap.size ≤ e.2.q := by
        intro e he
        obtain ⟨d', hd', rfl⟩ := List.mem_map.1 he
        have := hql d' hd'
        split <;> exact this
      by_cases hc0 : 0 ≤ a.n
      · by_cases hc1 : a.n ≤ m - z
        · rw [if_pos ⟨hc0, hc1⟩] at hRt
          have hdt2 : decide (0 ≤ a.n ∧ a.n ≤ m - z) = true := decide_eq_true ⟨hc0, hc1⟩
          rw [hdt2]
          simp (config := {maxSteps := 1000000}) only [↓zvN, zvU, ↓up_apply, ↓hv_apply, ↓upO_some, ↓upO_none, ↓ev_tmp, ↓ev_const, ↓ev_func, ↓ev_global, init, Nat.reduceEqDiff, Nat.reduceAdd, Nat.reduceMul, Nat.reduceSub, ↓reduceIte, Int.reduceEq, Int.reduceNe, Nat.reduceLeDiff, one, Value.cells, Int.reduceLE, Int.reduceLT, Int.reduceToNat, add_mk, reduceCtorEq, List.mem_range'_1, true_and, and_true, and_false, false_and, Nat.reduceLT, Nat.reduceLeDiff, tyF, h15, h12, hAw]
          refine draw_calm mixed (by kernel_rfl) ?_
          simp (config := {maxSteps := 1000000}) only [↓zvN, zvU, ↓zqD, ↓up_apply, ↓hv_apply, ↓upO_some, ↓upO_none, ↓ev_tmp, ↓ev_const, ↓ev_func, ↓ev_global, init, Nat.reduceEqDiff, Nat.reduceAdd, Nat.reduceMul, Nat.reduceSub, ↓reduceIte, Int.reduceEq, Int.reduceNe, Nat.reduceLeDiff, one, Value.cells, Int.reduceLE, Int.reduceLT, Int.reduceToNat, add_mk, reduceCtorEq, List.mem_range'_1, true_and, and_true, and_false, false_and, Nat.reduceLT, Nat.reduceLeDiff, tyF, h15, h12, hAw, e8, c10, l7, la, cz, j0, j0', jt, jt2, es, hc0, hc1, tt, ff, tf, ft, Int.toNat_natCast]
          intro w8 hm8
          have ho8 := ho7.more hm8
          have ho8' := ho7'.more hm8
          have j8 := j7.more hm8
          have hcs8 := hcs7.more hm8
          have cz8 : w8.cell? (aw.add j) = some (.int .i64 z) := by
            obtain ⟨y, hy, hc⟩ := hcs8 j (.int .i64 z) (by rw [List.getElem?_map, hz]; rfl)
            cases hy
            exact hc
          have la8 := Cs.lt' hcs8 (by simp; omega)
          have c108 := d10 j8
          have l8 := j8.lt
          have ea : IntKind.i64.wrap (z + a.n) = z + a.n := w64 (by omega) (by omega)
          refine draw_name fun K hK => ?_
          refine draw_seen 9 [[], [], [], [], [2, 3], [2, 3, 4], [], [6], [2, 3, 4, 5, 6, 7], [0, 1, 2, 3, 4, 5, 6, 7, 8], [0, 1, 2, 3, 4, 5, 6, 7, 8, 9]] (RV.look []) mixed (by kernel_rfl) (by kernel_rfl) (look_keeps _ (by simp)) ?_
          simp (config := {maxSteps := 1000000}) only [↓zvN, zvU, ↓zqD, ↓up_apply, ↓hv_apply, ↓upO_some, ↓upO_none, ↓ev_tmp, ↓ev_const, ↓ev_func, ↓ev_global, init, Nat.reduceEqDiff, Nat.reduceAdd, Nat.reduceMul, Nat.reduceSub, ↓reduceIte, Int.reduceEq, Int.reduceNe, Nat.reduceLeDiff, one, Value.cells, Int.reduceLE, Int.reduceLT, Int.reduceToNat, add_mk, reduceCtorEq, List.mem_range'_1, true_and, and_true, and_false, false_and, Nat.reduceLT, Nat.reduceLeDiff, tyF, h15, h12, hAw, c108, l8, la8, cz8, j0, jt, jt2, ea, Int.toNat_natCast]
          intro w9 hm9
          try simp (config := {maxSteps := 1000000}) only [↓zvN, zvU, ↓up_apply, ↓hv_apply, ↓upO_some, ↓upO_none, ↓ev_tmp, ↓ev_const, ↓ev_func, ↓ev_global, init, Nat.reduceEqDiff, Nat.reduceAdd, Nat.reduceMul, Nat.reduceSub, ↓reduceIte, Int.reduceEq, Int.reduceNe, Nat.reduceLeDiff, one, Value.cells, Int.reduceLE, Int.reduceLT, Int.reduceToNat, add_mk, reduceCtorEq, List.mem_range'_1, true_and, and_true, and_false, false_and, Nat.reduceLT, Nat.reduceLeDiff, tyF, p_nil, Int.toNat_natCast]
          have ho9' := ho8'.more hm9
          rw [hAw] at ho9'
          refine Own.st ho9' jt2 rfl fun w10 k1 _ k2 => ?_
          rw [s2_undef]
          try simp (config := {maxSteps := 1000000}) only [↓zvN, zvU, ↓up_apply, ↓hv_apply, ↓upO_some, ↓upO_none, ↓ev_tmp, ↓ev_const, ↓ev_func, ↓ev_global, init, Nat.reduceEqDiff, Nat.reduceAdd, Nat.reduceMul, Nat.reduceSub, ↓reduceIte, Int.reduceEq, Int.reduceNe, Nat.reduceLeDiff, one, Value.cells, Int.reduceLE, Int.reduceLT, Int.reduceToNat, add_mk, reduceCtorEq, List.mem_range'_1, true_and, and_true, and_false, false_and, Nat.reduceLT, Nat.reduceLeDiff, tyF]
          refine hK _ _ ?_
          have hB9 := (hB7.more hm8).more hm9
          have hap9 := own_apart ho9' hB9 hlo (by decide) aw rfl
          have bt := But.of_wr k1
          have hB10 := hB9.mod (Mod.of_wr (S := fun q => q = aw.block) k1 rfl) (fun h => hap9.2 h.symm) (fun q hq h => hap9.1 (by rw [← h]; exact hq))
          have ho10 := (Mod.of_wr (S := fun q => q = aw.block) k1 rfl).own (ho8.more hm9) (fun y hy h => own_apart2 ho9' (ho8.more hm9) (by decide) y hy ⟨aw, rfl, h.symm⟩)
          have hge := (ho9'.atB_ge ⟨aw, rfl, rfl⟩).1
          have hm310 : More w w10 := k1.below ((hm37.trans hm8).trans hm9) (by have := hm12.size; omega)
          simp (config := {maxSteps := 1000000}) only [↓zvN, zvU, ↓up_apply, ↓hv_apply, ↓upO_some, ↓upO_none, ↓ev_tmp, ↓ev_const, ↓ev_func, ↓ev_global, init, Nat.reduceEqDiff, Nat.reduceAdd, Nat.reduceMul, Nat.reduceSub, ↓reduceIte, Int.reduceEq, Int.reduceNe, Nat.reduceLeDiff, one, Value.cells, Int.reduceLE, Int.reduceLT, Int.reduceToNat, add_mk, reduceCtorEq, List.mem_range'_1, true_and, and_true, and_false, false_and, Nat.reduceLT, Nat.reduceLeDiff, tyF, h43, ek]
          refine ⟨⟨?_, k + 1, takeL L a.p 5 a.n, ps, ts.set j (z + a.n), A, some aw, c, c', rfl, by omega, by first | exact h11 | rfl, by rw [List.length_set]; first | exact h12.trans (by rw [hAw]) | rw [hAw] | rfl, ho10, by rw [List.length_set, List.map_set]; exact k2, hB10, hRt, hql2, by have h1 := hm7.size; have h2 := hm6.size; have h3 := hm5.size; have h4 := hm8.size; have h5 := hm9.size; have h6 := k1.size; omega, hm310⟩, by simp only [numOf]; omega⟩
          try simp only [h200, decide_false, e1, e2, e3, e4, e5, e6, e7, e8]
          repeat (first | exact Same.hv _ _ _ | refine Same.hv2 (fun s hs => mem_all22 (by decide) hs) ?_ | refine Same.up (by simp) ?_)
        · rw [if_neg (fun h => hc1 h.2)] at hRt
          have hdt2 : decide (0 ≤ a.n ∧ a.n ≤ m - z) = false := decide_eq_false (fun h => hc1 h.2)
          rw [hdt2]
          simp (config := {maxSteps := 1000000}) only [↓zvN, zvU, ↓up_apply, ↓hv_apply, ↓upO_some, ↓upO_none, ↓ev_tmp, ↓ev_const, ↓ev_func, ↓ev_global, init, Nat.reduceEqDiff, Nat.reduceAdd, Nat.reduceMul, Nat.reduceSub, ↓reduceIte, Int.reduceEq, Int.reduceNe, Nat.reduceLeDiff, one, Value.cells, Int.reduceLE, Int.reduceLT, Int.reduceToNat, add_mk, reduceCtorEq, List.mem_range'_1, true_and, and_true, and_false, false_and, Nat.reduceLT, Nat.reduceLeDiff, tyF, h15, h12, hAw]
          refine draw_calm mixed (by kernel_rfl) ?_
          simp (config := {maxSteps := 1000000}) only [↓zvN, zvU, ↓zqD, ↓up_apply, ↓hv_apply, ↓upO_some, ↓upO_none, ↓ev_tmp, ↓ev_const, ↓ev_func, ↓ev_global, init, Nat.reduceEqDiff, Nat.reduceAdd, Nat.reduceMul, Nat.reduceSub, ↓reduceIte, Int.reduceEq, Int.reduceNe, Nat.reduceLeDiff, one, Value.cells, Int.reduceLE, Int.reduceLT, Int.reduceToNat, add_mk, reduceCtorEq, List.mem_range'_1, true_and, and_true, and_false, false_and, Nat.reduceLT, Nat.reduceLeDiff, tyF, h15, h12, hAw, e8, c10, l7, la, cz, j0, j0', jt, jt2, es, hc0, hc1, tt, ff, tf, ft, Int.toNat_natCast]
          intro w8 hm8
          simp (config := {maxSteps := 1000000}) only [↓zvN, zvU, ↓up_apply, ↓hv_apply, ↓upO_some, ↓upO_none, ↓ev_tmp, ↓ev_const, ↓ev_func, ↓ev_global, init, Nat.reduceEqDiff, Nat.reduceAdd, Nat.reduceMul, Nat.reduceSub, ↓reduceIte, Int.reduceEq, Int.reduceNe, Nat.reduceLeDiff, one, Value.cells, Int.reduceLE, Int.reduceLT, Int.reduceToNat, add_mk, reduceCtorEq, List.mem_range'_1, true_and, and_true, and_false, false_and, Nat.reduceLT, Nat.reduceLeDiff, tyF, h43, ek]
          refine ⟨⟨?_, k + 1, takeL L a.p 5 a.n, ps, ts, A, A', c, c', rfl, by omega, by first | exact h11 | rfl, by first | exact h12 | rfl | rw [hAw], ho7.more hm8, ho7'.more hm8, hB7.more hm8, hRt, hql2, by have h1 := hm7.size; have h2 := hm6.size; have h3 := hm5.size; have h4 := hm8.size; omega, hm37.trans hm8⟩, by simp only [numOf]; omega⟩
          try simp only [h200, decide_false, e1, e2, e3, e4, e5, e6, e7, e8]
          repeat (first | exact Same.hv _ _ _ | refine Same.hv2 (fun s hs => mem_all22 (by decide) hs) ?_ | refine Same.up (by simp) ?_)
      · rw [if_neg (fun h => hc0 h.1)] at hRt
        have hdt2 : decide (0 ≤ a.n ∧ a.n ≤ m - z) = false := decide_eq_false (fun h => hc0 h.1)
        rw [hdt2]
        simp (config := {maxSteps := 1000000}) only [↓zvN, zvU, ↓up_apply, ↓hv_apply, ↓upO_some, ↓upO_none, ↓ev_tmp, ↓ev_const, ↓ev_func, ↓ev_global, init, Nat.reduceEqDiff, Nat.reduceAdd, Nat.reduceMul, Nat.reduceSub, ↓reduceIte, Int.reduceEq, Int.reduceNe, Nat.reduceLeDiff, one, Value.cells, Int.reduceLE, Int.reduceLT, Int.reduceToNat, add_mk, reduceCtorEq, List.mem_range'_1, true_and, and_true, and_false, false_and, Nat.reduceLT, Nat.reduceLeDiff, tyF, h15, h12, hAw]
        refine draw_calm mixed (by kernel_rfl) ?_
        simp (config := {maxSteps := 1000000}) only [↓zvN, zvU, ↓zqD, ↓up_apply, ↓hv_apply, ↓upO_some, ↓upO_none, ↓ev_tmp, ↓ev_const, ↓ev_func, ↓ev_global, init, Nat.reduceEqDiff, Nat.reduceAdd, Nat.reduceMul, Nat.reduceSub, ↓reduceIte, Int.reduceEq, Int.reduceNe, Nat.reduceLeDiff, one, Value.cells, Int.reduceLE, Int.reduceLT, Int.reduceToNat, add_mk, reduceCtorEq, List.mem_range'_1, true_and, and_true, and_false, false_and, Nat.reduceLT, Nat.reduceLeDiff, tyF, h15, h12, hAw, e8, c10, l7, la, cz, j0, j0', jt, jt2, es, hc0, tt, ff, tf, ft, Int.toNat_natCast]
        intro w8 hm8
        simp (config := {maxSteps := 1000000}) only [↓zvN, zvU, ↓up_apply, ↓hv_apply, ↓upO_some, ↓upO_none, ↓ev_tmp, ↓ev_const, ↓ev_func, ↓ev_global, init, Nat.reduceEqDiff, Nat.reduceAdd, Nat.reduceMul, Nat.reduceSub, ↓reduceIte, Int.reduceEq, Int.reduceNe, Nat.reduceLeDiff, one, Value.cells, Int.reduceLE, Int.reduceLT, Int.reduceToNat, add_mk, reduceCtorEq, List.mem_range'_1, true_and, and_true, and_false, false_and, Nat.reduceLT, Nat.reduceLeDiff, tyF, h43, ek]
        refine ⟨⟨?_, k + 1, takeL L a.p 5 a.n, ps, ts, A, A', c, c', rfl, by omega, by first | exact h11 | rfl, by first | exact h12 | rfl | rw [hAw], ho7.more hm8, ho7'.more hm8, hB7.more hm8, hRt, hql2, by have h1 := hm7.size; have h2 := hm6.size; have h3 := hm5.size; have h4 := hm8.size; omega, hm37.trans hm8⟩, by simp only [numOf]; omega⟩
        try simp only [h200, decide_false, e1, e2, e3, e4, e5, e6, e7, e8]
        repeat (first | exact Same.hv _ _ _ | refine Same.hv2 (fun s hs => mem_all22 (by decide) hs) ?_ | refine Same.up (by simp) ?_)
end Go.Proofs.Ytimhcjakpdebjaa
