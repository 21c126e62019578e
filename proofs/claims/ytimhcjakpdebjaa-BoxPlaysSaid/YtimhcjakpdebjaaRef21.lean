/-
  Layer 21: the document's list in order.
-/
import Derived.Test.YtimhcjakpdebjaaTabM
namespace Go.Proofs.Ytimhcjakpdebjaa
open Go Go.RowKit Go.Proofs.RV
set_option linter.unusedSimpArgs false
set_option linter.unusedVariables false
set_option maxRecDepth 10000
set_option maxHeartbeats 4000000
/-- 'append(v[:n:n], x...)' -/
theorem app_cut {P : Program} {t ty e : TypeId} {z : Value} {size bytes n m c2 : Nat} {A A2 : Option Addr} {xs news : List Value} {w : World} {K : Value → World → Prop} (ht : P.underlying t = some (.slice e)) (hE : ElemT P e z size bytes) (hzs : z.cells.size = size) (hsz : 0 < size)
    (hA : A = none → n = 0) (hxs : Cs w A xs) (hxl : xs.length = n * size) (hsrc : Cs w A2 news) (hl : news.length = m * size) (hm : 0 < m) (h1 : ∀ u ∈ news, u.oneCell' = true) (h63 : n + m ≤ maxLen) (hbytes : (n + m) * bytes ≤ 140737488355328)
    (hK : ∀ A' c' w', Own w' w.heap.size e size A' (n + m) c' (xs ++ news) → More w w' → K (.slice A' (n + m) c') w') :
    runP P (Builtin.append_ #[t, t] ty #[.slice A n n, .slice A2 m c2]) w K := by
  cases A with
  | none =>
    have h0 := hA rfl
    subst h0
    have hx : xs = [] := List.eq_nil_of_length_eq_zero (by omega)
    subst hx
    refine app_mod (B := w.heap.size) ht hE hzs hsz (Own.nil _ _ _ _) hsrc hl h1 h63 hbytes (Nat.le_refl _) fun A' c' w' ho hm' _ => hK A' c' w' ho ?_
    exact Mod.more (More.refl w) hm' (fun k _ h => atB_none k h)
  | some a =>
    obtain ⟨i, hi, hz, hs, hby⟩ := info_parts hE
    rcases A2 with _ | ad
    · exfalso
      cases news with
      | nil =>
        have := Nat.mul_pos hm hsz
        simp at hl
        omega
      | cons u r =>
        obtain ⟨x, hx, _⟩ := hsrc 0 u rfl
        cases hx
    · have holds : ∀ j u, xs[j]? = some u → w.cell? (a.add j) = some u := by
        intro j u hu
        obtain ⟨x, hx, hc⟩ := hxs j u hu
        cases hx
        exact hc
      have hnews : ∀ (j : Nat) (u : Value), news[j]? = some u → w.cell? (ad.add j) = some u := by
        intro j u hu
        obtain ⟨x, hx, hc⟩ := hsrc j u hu
        cases hx
        exact hc
      have hr := run_append_grow (P := P) w t ty e i z ht hi hz a n n xs (by rw [hs]; omega) holds ad m c2 news (by rw [hs]; omega) hnews (by omega) (by simp only [maxLen] at h63; omega) (growslice_fits (by omega) (by rw [hby]; exact hbytes))
      have hge := grownCap_ge w (n + m) n e
      have hcm : grownCap w (n + m) n e ≤ maxLen := grownCap_le_maxLen w (n + m) n e h63
      refine ⟨_, _, hr, hK _ _ _ ⟨?_, .inr ⟨w.heap.size, _, _, rfl, Nat.le_refl _, heap_alloc_new w.drew _, hge, hcm, ?_, ?_⟩⟩ ⟨rfl, rfl, rfl, by simp, fun k hk => heap_alloc_old w.drew _ (by simpa using hk)⟩⟩
      · rw [List.length_append, Nat.add_mul]; omega
      · have hmul : (n + m) * size + (grownCap w (n + m) n e - (n + m)) * size = grownCap w (n + m) n e * size := by rw [← Nat.add_mul]; congr 1; omega
        simp only [Array.size_append, List.size_toArray, size_zeroCells, hzs]
        rw [← hmul, Nat.add_mul]
        omega
      · simp only [Array.toList_append, List.append_assoc]
        rw [← List.append_assoc, show (n + m) * size = (xs ++ news).length by rw [List.length_append, Nat.add_mul]; omega]
        exact List.take_left
/-! ### The order -/
theorem plt_v6 {p q : PrefM} (h : p.v6 ≠ q.v6) : decide (plt p q) = q.v6 := by
  have key : plt p q ↔ q.v6 = true := by
    show Lib.compareBytes (pkey p) (pkey q) < 0 ↔ _
    obtain ⟨a, l⟩ := p
    obtain ⟨b, m⟩ := q
    simp only at h
    cases a <;> cases b <;> simp_all [Lib.compareBytes, pkey]
  cases hq : q.v6
  · rw [hq] at key
    exact decide_eq_false fun h => by simp at key; exact key h
  · rw [hq] at key
    exact decide_eq_true (key.2 rfl)
def cmpAt (a b : List UInt8) : Bool := decide (Lib.compareBytes a b < 0)
theorem plt_addr {p q : PrefM} (h : p.v6 = q.v6) : decide (plt p q) = cmpAt p.addr q.addr := by
  unfold cmpAt
  rw [decide_eq_decide]
  show Lib.compareBytes (pkey p) (pkey q) < 0 ↔ _
  unfold pkey
  rw [h]
  conv => lhs; rw [Lib.compareBytes]
  rw [if_neg (UInt8.lt_irrefl _), if_neg (UInt8.lt_irrefl _)]
theorem cmp_drop {a b : List UInt8} {k : Nat} (ha : k < a.length) (hb : k < b.length) : cmpAt (a.drop k) (b.drop k) = if a[k] ≠ b[k] then decide (a[k] < b[k]) else cmpAt (a.drop (k + 1)) (b.drop (k + 1)) := by
  unfold cmpAt
  rw [List.drop_eq_getElem_cons ha, List.drop_eq_getElem_cons hb]
  conv => lhs; rw [Lib.compareBytes]
  by_cases h1 : a[k] < b[k]
  · rw [if_pos h1, if_pos (fun e => by rw [e] at h1; exact UInt8.lt_irrefl _ h1)]
    simp [h1]
  · rw [if_neg h1]
    by_cases h2 : b[k] < a[k]
    · rw [if_pos h2, if_pos (fun e => by rw [e] at h2; exact UInt8.lt_irrefl _ h2)]
      simp [h1]
    · rw [if_neg h2, if_neg (fun e => e (UInt8.le_antisymm (UInt8.not_lt.1 h2) (UInt8.not_lt.1 h1)))]
theorem bt_ne {a b : List UInt8} {k : Nat} (ha : k < a.length) (hb : k < b.length) : bt a k ≠ bt b k ↔ a[k] ≠ b[k] := by
  unfold bt
  rw [List.getD_eq_getElem?_getD, List.getD_eq_getElem?_getD, List.getElem?_eq_getElem ha, List.getElem?_eq_getElem hb]
  simp only [Option.getD_some, ne_eq, Int.natCast_inj]
  constructor
  · intro h e; rw [e] at h; exact h rfl
  · intro h e; exact h (UInt8.toNat.inj e)
theorem bt_ltI {a b : List UInt8} {k : Nat} (ha : k < a.length) (hb : k < b.length) : bt a k < bt b k ↔ a[k] < b[k] := by
  unfold bt
  rw [List.getD_eq_getElem?_getD, List.getD_eq_getElem?_getD, List.getElem?_eq_getElem ha, List.getElem?_eq_getElem hb]
  simp only [Option.getD_some, Int.ofNat_lt]
  exact Iff.rfl
def LessJ (p q : PrefM) (w : World) (v13 : Value) (w' : World) : Prop :=
  ∃ k : Nat, v13 = .int .i64 k ∧ k ≤ 7 ∧ cmpAt (p.addr.drop k) (q.addr.drop k) = cmpAt p.addr q.addr ∧ More w w'
theorem ref_less (w : World) (p q : PrefM) (hp : p.addr.length = 7) (hq : q.addr.length = 7) : Ret Try.prog 12 #[.agg p.cells.toArray, .agg q.cells.toArray] w fun v w' => v = .bool (decide (plt p q)) ∧ More w w' := by
  refine ret_of Try.func12 rfl (by kernel_rfl) (Nat.le_of_ble_eq_true (by kernel_rfl)) ?_
  have hm1 := more_alloc w (.cells p.cells.toArray 24)
  have hb1 := Blk.new w 24 p.cells.toArray
  have s1 := size_alloc w (.cells p.cells.toArray 24)
  have hm2 := more_alloc (w.alloc (.cells p.cells.toArray 24)) (.cells q.cells.toArray 24)
  have hb2 := Blk.new (w.alloc (.cells p.cells.toArray 24)) 24 q.cells.toArray
  rw [s1] at hb2
  replace hb1 := hb1.more hm2
  have hm := hm1.trans hm2
  rw [List.toList_toArray] at hb1 hb2
  have c1 : ((w.alloc (.cells p.cells.toArray 24)).alloc (.cells q.cells.toArray 24)).cell? ⟨w.heap.size, 0, none⟩ = some (.bool p.v6) := by rw [hb1.cell]; rfl
  have c2 : ((w.alloc (.cells p.cells.toArray 24)).alloc (.cells q.cells.toArray 24)).cell? ⟨w.heap.size + 1, 0, none⟩ = some (.bool q.v6) := by rw [hb2.cell]; rfl
  simp (config := {maxSteps := 1000000}) only [↓zvN, zvU, ↓up_apply, ↓hv_apply, ↓upO_some, ↓upO_none, ↓ev_tmp, ↓ev_const, ↓ev_func, ↓ev_global, init, Nat.reduceEqDiff, Nat.reduceAdd, Nat.reduceMul, Nat.reduceSub, ↓reduceIte, Int.reduceEq, Int.reduceNe, Nat.reduceLeDiff, one, Value.cells, Int.reduceLE, Int.reduceLT, Int.reduceToNat, add_mk, reduceCtorEq, List.mem_range'_1, true_and, and_true, and_false, false_and, Nat.reduceLT, Nat.reduceLeDiff, tyF, s1]
  by_cases hv : p.v6 = q.v6
  rotate_left
  · have hbq : (p.v6 == q.v6) = false := by simpa using hv
    simp (config := {maxSteps := 1000000}) only [↓zvN, zvU, ↓up_apply, ↓hv_apply, ↓upO_some, ↓upO_none, ↓ev_tmp, ↓ev_const, ↓ev_func, ↓ev_global, init, Nat.reduceEqDiff, Nat.reduceAdd, Nat.reduceMul, Nat.reduceSub, ↓reduceIte, Int.reduceEq, Int.reduceNe, Nat.reduceLeDiff, one, Value.cells, Int.reduceLE, Int.reduceLT, Int.reduceToNat, add_mk, reduceCtorEq, List.mem_range'_1, true_and, and_true, and_false, false_and, Nat.reduceLT, Nat.reduceLeDiff, tyF, c1, c2, s1, hbq]
    rw [plt_v6 hv]
    exact ⟨rfl, hm⟩
  have hbq : (p.v6 == q.v6) = true := by simpa using hv
  simp (config := {maxSteps := 1000000}) only [↓zvN, zvU, ↓up_apply, ↓hv_apply, ↓upO_some, ↓upO_none, ↓ev_tmp, ↓ev_const, ↓ev_func, ↓ev_global, init, Nat.reduceEqDiff, Nat.reduceAdd, Nat.reduceMul, Nat.reduceSub, ↓reduceIte, Int.reduceEq, Int.reduceNe, Nat.reduceLeDiff, one, Value.cells, Int.reduceLE, Int.reduceLT, Int.reduceToNat, add_mk, reduceCtorEq, List.mem_range'_1, true_and, and_true, and_false, false_and, Nat.reduceLT, Nat.reduceLeDiff, tyF, c1, c2, s1, hbq]
  rw [plt_addr hv]
  clear hbq c1 c2
  obtain ⟨w1, hw1⟩ : ∃ w1, (w.alloc (.cells p.cells.toArray 24)).alloc (.cells q.cells.toArray 24) = w1 := ⟨_, rfl⟩
  rw [hw1] at hm hb1 hb2 ⊢
  refine loop_p (5 :: List.range' 13 22) (fun e w' => LessJ p q w1 (e 13) w') (fun e _ => 7 - (numOf (e 13)).toNat) ?_ ?_
  · exact ⟨0, by simp only [hv_apply, up_apply, upO_some, upO_none, init, List.mem_cons, List.mem_range'_1, true_and, and_true, and_false, false_and, Nat.reduceLT, Nat.reduceLeDiff, Nat.reduceAdd, true_or, or_true, if_true, if_false, ↓reduceIte, Nat.reduceEqDiff, false_or, or_false, List.not_mem_nil, List.getElem?_cons_zero, List.getElem?_cons_succ, Option.getD_some] <;> rfl, by omega, rfl, More.refl _⟩
  rintro v w2 ⟨k, h13, hk, hc, hm2⟩
  simp only [hv_apply, up_apply, upO_some, upO_none, init, List.mem_cons, List.mem_range'_1, true_and, and_true, and_false, false_and, Nat.reduceLT, Nat.reduceLeDiff, Nat.reduceAdd, true_or, or_true, if_true, if_false, ↓reduceIte, Nat.reduceEqDiff, false_or, or_false, List.not_mem_nil, List.getElem?_cons_zero, List.getElem?_cons_succ, Option.getD_some] at h13
  have ek : IntKind.i64.wrap ((k : Int) + 1) = ((k + 1 : Nat) : Int) := w64 (by omega) (by omega)
  simp (config := {maxSteps := 1000000}) only [↓zvN, zvU, ↓up_apply, ↓hv_apply, ↓upO_some, ↓upO_none, ↓ev_tmp, ↓ev_const, ↓ev_func, ↓ev_global, init, Nat.reduceEqDiff, Nat.reduceAdd, Nat.reduceMul, Nat.reduceSub, ↓reduceIte, Int.reduceEq, Int.reduceNe, Nat.reduceLeDiff, one, Value.cells, Int.reduceLE, Int.reduceLT, Int.reduceToNat, add_mk, reduceCtorEq, List.mem_range'_1, true_and, and_true, and_false, false_and, Nat.reduceLT, Nat.reduceLeDiff, tyF, h13]
  refine ⟨fun h9 => ?_, fun h9 => ?_⟩
  rotate_left
  · obtain rfl : k = 7 := by omega
    rw [← hc, List.drop_eq_nil_of_le (by omega), List.drop_eq_nil_of_le (by omega)]
    exact ⟨rfl, hm.trans hm2⟩
  have hk7 : k < 7 := by omega
  have g0 : (0 : Int) ≤ (k : Int) := by omega
  have d1 : w2.cell? ⟨w.heap.size, 1 + k, none⟩ = some (.int .u8 (bt p.addr k)) := by rw [(hb1.more hm2).cell, PrefM.cells, Nat.add_comm, List.getElem?_cons_succ]; exact byteV_bt (by omega)
  have d2 : w2.cell? ⟨w.heap.size + 1, 1 + k, none⟩ = some (.int .u8 (bt q.addr k)) := by rw [(hb2.more hm2).cell, PrefM.cells, Nat.add_comm, List.getElem?_cons_succ]; exact byteV_bt (by omega)
  have l1 := (hb1.more hm2).lt
  have l2 := (hb2.more hm2).lt
  rw [cmp_drop (by omega) (by omega)] at hc
  have hne := bt_ne (a := p.addr) (b := q.addr) (k := k) (by omega) (by omega)
  have hlt := bt_ltI (a := p.addr) (b := q.addr) (k := k) (by omega) (by omega)
  simp (config := {maxSteps := 1000000}) only [↓zvN, zvU, ↓up_apply, ↓hv_apply, ↓upO_some, ↓upO_none, ↓ev_tmp, ↓ev_const, ↓ev_func, ↓ev_global, init, Nat.reduceEqDiff, Nat.reduceAdd, Nat.reduceMul, Nat.reduceSub, ↓reduceIte, Int.reduceEq, Int.reduceNe, Nat.reduceLeDiff, one, Value.cells, Int.reduceLE, Int.reduceLT, Int.reduceToNat, add_mk, reduceCtorEq, List.mem_range'_1, true_and, and_true, and_false, false_and, Nat.reduceLT, Nat.reduceLeDiff, tyF, h13, g0, h9, hk7]
  refine draw_calm mixed (by kernel_rfl) ?_
  simp (config := {maxSteps := 1000000}) only [↓zvN, zvU, ↓zqD, ↓up_apply, ↓hv_apply, ↓upO_some, ↓upO_none, ↓ev_tmp, ↓ev_const, ↓ev_func, ↓ev_global, init, Nat.reduceEqDiff, Nat.reduceAdd, Nat.reduceMul, Nat.reduceSub, ↓reduceIte, Int.reduceEq, Int.reduceNe, Nat.reduceLeDiff, one, Value.cells, Int.reduceLE, Int.reduceLT, Int.reduceToNat, add_mk, reduceCtorEq, List.mem_range'_1, true_and, and_true, and_false, false_and, Nat.reduceLT, Nat.reduceLeDiff, tyF, h13, g0, h9, hk7, d1, d2, l1, l2, Int.toNat_natCast]
  intro w3 hm3
  have hm23 := hm2.trans hm3
  refine ⟨fun e => ?_, fun e => ?_⟩
  · rw [if_neg (fun h => (hne.2 h) e)] at hc
    rw [ek]
    refine ⟨⟨?_, k + 1, rfl, by omega, hc, hm23⟩, by simp only [numOf]; omega⟩
    repeat (first | exact Same.hv _ _ _ | refine Same.up (by simp) ?_)
  · rw [if_pos (hne.1 e)] at hc
    have d1 := (hb1.more hm23)
    have d2 := (hb2.more hm23)
    have e1 : w3.cell? ⟨w.heap.size, 1 + k, none⟩ = some (.int .u8 (bt p.addr k)) := by rw [d1.cell, PrefM.cells, Nat.add_comm, List.getElem?_cons_succ]; exact byteV_bt (by omega)
    have e2 : w3.cell? ⟨w.heap.size + 1, 1 + k, none⟩ = some (.int .u8 (bt q.addr k)) := by rw [d2.cell, PrefM.cells, Nat.add_comm, List.getElem?_cons_succ]; exact byteV_bt (by omega)
    have l1 := d1.lt
    have l2 := d2.lt
    refine draw_calm mixed (by kernel_rfl) ?_
    simp (config := {maxSteps := 1000000}) only [↓zvN, zvU, ↓zqD, ↓up_apply, ↓hv_apply, ↓upO_some, ↓upO_none, ↓ev_tmp, ↓ev_const, ↓ev_func, ↓ev_global, init, Nat.reduceEqDiff, Nat.reduceAdd, Nat.reduceMul, Nat.reduceSub, ↓reduceIte, Int.reduceEq, Int.reduceNe, Nat.reduceLeDiff, one, Value.cells, Int.reduceLE, Int.reduceLT, Int.reduceToNat, add_mk, reduceCtorEq, List.mem_range'_1, true_and, and_true, and_false, false_and, Nat.reduceLT, Nat.reduceLeDiff, tyF, h13, g0, h9, hk7, e1, e2, l1, l2, Int.toNat_natCast]
    intro w4 hm4
    have er : decide (bt p.addr k < bt q.addr k) = cmpAt p.addr q.addr := by rw [← hc, decide_eq_decide]; exact hlt
    try simp (config := {maxSteps := 1000000}) only [↓zvN, zvU, ↓up_apply, ↓hv_apply, ↓upO_some, ↓upO_none, ↓ev_tmp, ↓ev_const, ↓ev_func, ↓ev_global, init, Nat.reduceEqDiff, Nat.reduceAdd, Nat.reduceMul, Nat.reduceSub, ↓reduceIte, Int.reduceEq, Int.reduceNe, Nat.reduceLeDiff, one, Value.cells, Int.reduceLE, Int.reduceLT, Int.reduceToNat, add_mk, reduceCtorEq, List.mem_range'_1, true_and, and_true, and_false, false_and, Nat.reduceLT, Nat.reduceLeDiff, tyF, er]
    exact ⟨rfl, (hm.trans hm23).trans hm4⟩
theorem Cs.lt' {w : World} {a : Addr} {cs : List Value} (h : Cs w (some a) cs) (h0 : 0 < cs.length) : a.block < w.heap.size := by
  cases cs with
  | nil => simp at h0
  | cons v r =>
    obtain ⟨x, hx, hl⟩ := Cs.lt h
    cases hx
    exact hl
theorem addr_zero (a : Addr) : a.add 0 = a := by unfold Addr.add; rw [if_pos rfl]
/-! ### The list's rows -/
abbrev RE := PrefM × Int
def reC (e : RE) : List Value := e.1.cells ++ [.int .i64 e.2]
def ReOk (l : List RE) : Prop := ∀ e ∈ l, e.1.addr.length = 7
theorem reC_len {e : RE} (h : e.1.addr.length = 7) : (reC e).length = 9 := by simp [reC, PrefM.cells, h]
theorem ReOk.lens {l : List RE} (h : ReOk l) : ∀ e ∈ l, (reC e).length = 9 := fun e he => reC_len (h e he)
theorem reC_one (e : RE) : ∀ u ∈ reC e, u.oneCell' = true := by
  intro u hu
  rcases List.mem_append.1 hu with h | h
  · exact PrefM.one _ u h
  · simp at h; subst h; rfl
/-- where p is; -1: nowhere -/
def idxL (p : PrefM) : List RE → Nat → Int
  | [], _ => -1
  | e :: l, k => if e.1 = p then (k : Int) else idxL p l (k + 1)
theorem idx_neg {p : PrefM} : ∀ (l : List RE) (k : Nat), idxL p l k = -1 ∨ ∃ i, idxL p l k = ((k + i : Nat) : Int) ∧ i < l.length ∧ ∃ e, l[i]? = some e ∧ e.1 = p
  | [], k => .inl rfl
  | e :: l, k => by
    unfold idxL
    by_cases h : e.1 = p
    · rw [if_pos h]
      exact .inr ⟨0, by omega, by simp, e, rfl, h⟩
    · rw [if_neg h]
      rcases idx_neg l (k + 1) with h1 | ⟨i, h1, h2, e', h3, h4⟩
      · exact .inl h1
      · exact .inr ⟨i + 1, by rw [h1]; congr 1; omega, by simp; omega, e', by simpa using h3, h4⟩
theorem idx_mem {p : PrefM} : ∀ (l : List RE) (k : Nat), 0 ≤ idxL p l k ↔ p ∈ keysM l
  | [], k => by simp [idxL, keysM]
  | e :: l, k => by
    have hk : p ∈ keysM (e :: l) ↔ p = e.1 ∨ p ∈ keysM l := List.mem_cons
    unfold idxL
    rw [hk]
    by_cases h : e.1 = p
    · rw [if_pos h]
      exact ⟨fun _ => .inl h.symm, fun _ => by omega⟩
    · rw [if_neg h, idx_mem l (k + 1)]
      exact ⟨.inr, fun h1 => by rcases h1 with h1 | h1; exact absurd h1.symm h; exact h1⟩
theorem idx_get {p : PrefM} {l : List RE} (h : p ∈ keysM l) : ∃ i : Nat, idxL p l 0 = i ∧ i < l.length ∧ ∃ e, l[i]? = some e ∧ e.1 = p := by
  have h0 := (idx_mem l 0).2 h
  rcases idx_neg (p := p) l 0 with h1 | ⟨i, h1, h2, h3⟩
  · omega
  · exact ⟨i, by rw [h1, Nat.zero_add], h2, h3⟩
theorem pref_ne {a b : PrefM} (ha : a.addr.length = 7) (hb : b.addr.length = 7) (w0 : World) (ox oy : Operand) (K : Value → Prop) :
    pureP Try.prog (do eqGuard .neq 24 ox oy (.agg a.cells.toArray) (.agg b.cells.toArray); binOp .neq 24 (.agg a.cells.toArray) (.agg b.cells.toArray)) K = K (.bool (decide (a ≠ b))) := by
  rw [neq_flat (n := 4) pref_g ⟨pref_tv _, pref_tv _⟩ (pref_flat ha 0) (pref_flat hb 0) (by omega) w0 ox oy K]
  simp only [ne_eq, PrefM.cells_inj]
  congr 2
  by_cases h : a = b <;> simp [h]
def SameRJ (l m : List PrefM) (w : World) (v13 : Value) (w' : World) : Prop := ∃ k : Nat, v13 = .int .i64 k ∧ k ≤ l.length ∧ l.take k = m.take k ∧ More w w'
theorem ref_same (w : World) (A B : Option Addr) (l m : List PrefM) (c d : Nat) (hA : Cs w A (l.flatMap PrefM.cells)) (hB : Cs w B (m.flatMap PrefM.cells)) (hl : ∀ p ∈ l, p.addr.length = 7) (hm : ∀ p ∈ m, p.addr.length = 7) (hll : l.length ≤ 1000000) (hml : m.length ≤ 1000000) :
    Ret Try.prog 22 #[.slice A l.length c, .slice B m.length d] w fun v w' => v = .bool (decide (l = m)) ∧ More w w' := by
  refine ret_of Try.func22 rfl (by kernel_rfl) (Nat.le_of_ble_eq_true (by kernel_rfl)) ?_
  have c8 : ∀ {p : PrefM}, p.addr.length = 7 → p.cells.length = 8 := fun h => by simp [PrefM.cells, h]
  have lensL : ∀ p ∈ l, p.cells.length = 8 := fun p hp => c8 (hl p hp)
  have lensM : ∀ p ∈ m, p.cells.length = 8 := fun p hp => c8 (hm p hp)
  by_cases hlen : l.length = m.length
  rotate_left
  · have hI : ¬ (l.length : Int) = (m.length : Int) := by omega
    have hd : decide (l = m) = false := decide_eq_false fun h => hlen (by rw [h])
    simp (config := {maxSteps := 1000000}) only [↓zvN, zvU, ↓up_apply, ↓hv_apply, ↓upO_some, ↓upO_none, ↓ev_tmp, ↓ev_const, ↓ev_func, ↓ev_global, init, Nat.reduceEqDiff, Nat.reduceAdd, Nat.reduceMul, Nat.reduceSub, ↓reduceIte, Int.reduceEq, Int.reduceNe, Nat.reduceLeDiff, one, Value.cells, Int.reduceLE, Int.reduceLT, Int.reduceToNat, add_mk, reduceCtorEq, List.mem_range'_1, true_and, and_true, and_false, false_and, Nat.reduceLT, Nat.reduceLeDiff, tyF, hI]
    rw [hd]
    exact ⟨rfl, More.refl _⟩
  have hI : (l.length : Int) = (m.length : Int) := by omega
  simp (config := {maxSteps := 1000000}) only [↓zvN, zvU, ↓up_apply, ↓hv_apply, ↓upO_some, ↓upO_none, ↓ev_tmp, ↓ev_const, ↓ev_func, ↓ev_global, init, Nat.reduceEqDiff, Nat.reduceAdd, Nat.reduceMul, Nat.reduceSub, ↓reduceIte, Int.reduceEq, Int.reduceNe, Nat.reduceLeDiff, one, Value.cells, Int.reduceLE, Int.reduceLT, Int.reduceToNat, add_mk, reduceCtorEq, List.mem_range'_1, true_and, and_true, and_false, false_and, Nat.reduceLT, Nat.reduceLeDiff, tyF, hI]
  refine loop_p (5 :: List.range' 13 13) (fun e w' => SameRJ l m w (e 13) w') (fun e _ => l.length - (numOf (e 13)).toNat) ?_ ?_
  · exact ⟨0, by simp only [hv_apply, up_apply, upO_some, upO_none, init, List.mem_cons, List.mem_range'_1, true_and, and_true, and_false, false_and, Nat.reduceLT, Nat.reduceLeDiff, Nat.reduceAdd, true_or, or_true, if_true, if_false, ↓reduceIte, Nat.reduceEqDiff, false_or, or_false, List.not_mem_nil, List.getElem?_cons_zero, List.getElem?_cons_succ, Option.getD_some] <;> rfl, by omega, by simp, More.refl _⟩
  rintro v w2 ⟨k, h13, hk, hc, hm2⟩
  simp only [hv_apply, up_apply, upO_some, upO_none, init, List.mem_cons, List.mem_range'_1, true_and, and_true, and_false, false_and, Nat.reduceLT, Nat.reduceLeDiff, Nat.reduceAdd, true_or, or_true, if_true, if_false, ↓reduceIte, Nat.reduceEqDiff, false_or, or_false, List.not_mem_nil, List.getElem?_cons_zero, List.getElem?_cons_succ, Option.getD_some] at h13
  have ek : IntKind.i64.wrap ((k : Int) + 1) = ((k + 1 : Nat) : Int) := w64 (by omega) (by omega)
  simp (config := {maxSteps := 1000000}) only [↓zvN, zvU, ↓up_apply, ↓hv_apply, ↓upO_some, ↓upO_none, ↓ev_tmp, ↓ev_const, ↓ev_func, ↓ev_global, init, Nat.reduceEqDiff, Nat.reduceAdd, Nat.reduceMul, Nat.reduceSub, ↓reduceIte, Int.reduceEq, Int.reduceNe, Nat.reduceLeDiff, one, Value.cells, Int.reduceLE, Int.reduceLT, Int.reduceToNat, add_mk, reduceCtorEq, List.mem_range'_1, true_and, and_true, and_false, false_and, Nat.reduceLT, Nat.reduceLeDiff, tyF, h13, hI]
  refine ⟨fun h9 => ?_, fun h9 => ?_⟩
  rotate_left
  · obtain rfl : k = l.length := by omega
    rw [List.take_length, hlen, List.take_length] at hc
    rw [decide_eq_true hc]
    exact ⟨rfl, hm2⟩
  obtain ⟨x, hx⟩ := row_nat l k (by omega)
  obtain ⟨y, hy⟩ := row_nat m k (by omega)
  obtain ⟨a, rfl⟩ := hA.some_of (by rw [row_len l lensL]; omega)
  obtain ⟨b, rfl⟩ := hB.some_of (by rw [row_len m lensM]; omega)
  have hA2 := hA.more hm2
  have hB2 := hB.more hm2
  have rd := hA2.rowEq lensL hx
  have rb := hB2.rowEq lensM hy
  have g0 : (0 : Int) ≤ (k : Int) := by omega
  have hkm : (k : Int) < (m.length : Int) := by omega
  have la := Cs.lt' hA2 (by rw [row_len l lensL]; omega)
  have lb := Cs.lt' hB2 (by rw [row_len m lensM]; omega)
  have hxp := hl x (List.mem_of_getElem? hx)
  have hyp := hm y (List.mem_of_getElem? hy)
  have pne := pref_ne hxp hyp w2
  have ht : l.take (k + 1) = m.take (k + 1) ↔ x = y := by
    rw [List.take_add_one, List.take_add_one, hx, hy, hc]
    simp
  by_cases he : x = y
  · have pne2 : ∀ ox oy K, _ := fun ox oy K => (pne ox oy K).trans (show _ = K (.bool false) by simp only [he, ne_eq, not_true_eq_false, decide_false])
    simp (config := {maxSteps := 1000000}) only [↓zvN, zvU, ↓up_apply, ↓hv_apply, ↓upO_some, ↓upO_none, ↓ev_tmp, ↓ev_const, ↓ev_func, ↓ev_global, init, Nat.reduceEqDiff, Nat.reduceAdd, Nat.reduceMul, Nat.reduceSub, ↓reduceIte, Int.reduceEq, Int.reduceNe, Nat.reduceLeDiff, one, Value.cells, Int.reduceLE, Int.reduceLT, Int.reduceToNat, add_mk, reduceCtorEq, List.mem_range'_1, true_and, and_true, and_false, false_and, Nat.reduceLT, Nat.reduceLeDiff, tyF, h13, hI, g0, h9, hkm]
    refine draw_calm mixed (by kernel_rfl) ?_
    simp (config := {maxSteps := 1000000}) only [↓zvN, zvU, ↓zqD, ↓up_apply, ↓hv_apply, ↓upO_some, ↓upO_none, ↓ev_tmp, ↓ev_const, ↓ev_func, ↓ev_global, init, Nat.reduceEqDiff, Nat.reduceAdd, Nat.reduceMul, Nat.reduceSub, ↓reduceIte, Int.reduceEq, Int.reduceNe, Nat.reduceLeDiff, one, Value.cells, Int.reduceLE, Int.reduceLT, Int.reduceToNat, add_mk, reduceCtorEq, List.mem_range'_1, true_and, and_true, and_false, false_and, Nat.reduceLT, Nat.reduceLeDiff, tyF, h13, g0, h9, hkm, hI, addr_zero, rd, rb, la, lb, pne2, Int.toNat_natCast]
    intro w3 hm3
    try simp (config := {maxSteps := 1000000}) only [↓zvN, zvU, ↓up_apply, ↓hv_apply, ↓upO_some, ↓upO_none, ↓ev_tmp, ↓ev_const, ↓ev_func, ↓ev_global, init, Nat.reduceEqDiff, Nat.reduceAdd, Nat.reduceMul, Nat.reduceSub, ↓reduceIte, Int.reduceEq, Int.reduceNe, Nat.reduceLeDiff, one, Value.cells, Int.reduceLE, Int.reduceLT, Int.reduceToNat, add_mk, reduceCtorEq, List.mem_range'_1, true_and, and_true, and_false, false_and, Nat.reduceLT, Nat.reduceLeDiff, tyF]
    rw [ek]
    refine ⟨⟨?_, k + 1, rfl, by omega, ht.2 he, hm2.trans hm3⟩, by simp only [numOf]; omega⟩
    repeat (first | exact Same.hv _ _ _ | refine Same.up (by simp) ?_)
  · have pne2 : ∀ ox oy K, _ := fun ox oy K => (pne ox oy K).trans (show _ = K (.bool true) by simp only [he, ne_eq, not_false_eq_true, decide_true])
    simp (config := {maxSteps := 1000000}) only [↓zvN, zvU, ↓up_apply, ↓hv_apply, ↓upO_some, ↓upO_none, ↓ev_tmp, ↓ev_const, ↓ev_func, ↓ev_global, init, Nat.reduceEqDiff, Nat.reduceAdd, Nat.reduceMul, Nat.reduceSub, ↓reduceIte, Int.reduceEq, Int.reduceNe, Nat.reduceLeDiff, one, Value.cells, Int.reduceLE, Int.reduceLT, Int.reduceToNat, add_mk, reduceCtorEq, List.mem_range'_1, true_and, and_true, and_false, false_and, Nat.reduceLT, Nat.reduceLeDiff, tyF, h13, hI, g0, h9, hkm]
    refine draw_calm mixed (by kernel_rfl) ?_
    simp (config := {maxSteps := 1000000}) only [↓zvN, zvU, ↓zqD, ↓up_apply, ↓hv_apply, ↓upO_some, ↓upO_none, ↓ev_tmp, ↓ev_const, ↓ev_func, ↓ev_global, init, Nat.reduceEqDiff, Nat.reduceAdd, Nat.reduceMul, Nat.reduceSub, ↓reduceIte, Int.reduceEq, Int.reduceNe, Nat.reduceLeDiff, one, Value.cells, Int.reduceLE, Int.reduceLT, Int.reduceToNat, add_mk, reduceCtorEq, List.mem_range'_1, true_and, and_true, and_false, false_and, Nat.reduceLT, Nat.reduceLeDiff, tyF, h13, g0, h9, hkm, hI, addr_zero, rd, rb, la, lb, pne2, Int.toNat_natCast]
    intro w3 hm3
    try simp (config := {maxSteps := 1000000}) only [↓zvN, zvU, ↓up_apply, ↓hv_apply, ↓upO_some, ↓upO_none, ↓ev_tmp, ↓ev_const, ↓ev_func, ↓ev_global, init, Nat.reduceEqDiff, Nat.reduceAdd, Nat.reduceMul, Nat.reduceSub, ↓reduceIte, Int.reduceEq, Int.reduceNe, Nat.reduceLeDiff, one, Value.cells, Int.reduceLE, Int.reduceLT, Int.reduceToNat, add_mk, reduceCtorEq, List.mem_range'_1, true_and, and_true, and_false, false_and, Nat.reduceLT, Nat.reduceLeDiff, tyF]
    rw [decide_eq_false fun h => he (ht.1 (by rw [h]))]
    exact ⟨rfl, hm2.trans hm3⟩
theorem bslice0 {P : Program} {t e : TypeId} {z : Value} {bytes s : Nat} {w : World} {K : Value → World → Prop} (ht : P.underlying t = some (.slice e)) (hE : ElemT P e z s bytes)
    (hK : K (.slice (some ⟨w.heap.size, 0, none⟩) 0 0) (w.alloc (.cells #[] e))) : runP P (Instr.buildSlice t 0 #[]) w K := by
  obtain ⟨i, hi, hz, hs, hby⟩ := info_parts hE
  refine ⟨_, _, ?_, hK⟩
  have hsz : (Go.sizeOf e).run P w = .ok s w := by simp [Go.sizeOf, typeInfo, hi, hs]
  unfold Instr.buildSlice
  rw [Sem.run_bind, run_un ht]
  simp only [Result.andThen_ok]
  rw [Sem.run_bind, hsz]
  simp only [Result.andThen_ok]
  rw [if_neg (by omega), if_pos (by omega), Sem.run_bind]
  simp only [Sem.run_pure, Result.andThen_ok]
  have h2 := fill_laid (fun i => some (i * s, s)) [] ((Array.range (0 * s)).map ((#[] : Array Value)[· % (#[] : Array Value).size]!)) [] (by simp [laid])
  rw [h2]
  rfl
theorem tw_spec {f : RE → Bool} : ∀ {l : List RE} {k : Nat}, (∀ e ∈ l.take k, f e = true) → (k = l.length ∨ ∃ e, l[k]? = some e ∧ f e = false) → l.takeWhile f = l.take k ∧ l.dropWhile f = l.drop k
  | [], k, _, _ => by simp
  | x :: l, 0, _, h => by
    rcases h with h | ⟨e, h, hf⟩
    · simp at h
    · simp only [List.getElem?_cons_zero, Option.some.injEq] at h
      subst h
      simp [hf]
  | x :: l, k + 1, ha, h => by
    have hx : f x = true := ha x (by simp)
    have ih := tw_spec (f := f) (l := l) (k := k) (fun e he => ha e (by simp [he])) (by
      rcases h with h | ⟨e, h, hf⟩
      · left; simpa using h
      · right; exact ⟨e, by simpa using h, hf⟩)
    simp [hx, ih.1, ih.2]
theorem reE : ElemT Try.prog 46 (.agg (reC (prefZ, 0)).toArray) 9 16 := by unfold ElemT; kernel_rfl
theorem zerRE : zer Try.prog 46 = some (.agg (reC (prefZ, 0)).toArray) := by rw [zer46]; rfl
theorem re_build (p : PrefM) (x : Int) (hp : p.addr.length = 7) (w0 : World) (K : Value → Prop) :
    pureP Try.prog (Instr.build 46 #[(0, .agg p.cells.toArray), (1, .int .i64 x)]) K = K (.agg (reC (p, x)).toArray) := by
  have h8 : p.cells.length = 8 := by simp [PrefM.cells, hp]
  have pl : PlacesOk (placeOf Try.prog 46) 0 0 ([p.cells, [.int .i64 x]]) := by
    simp only [PlacesOk, placeOf, Try.underlying46, List.getElem?_toArray, List.getElem?_cons_zero, List.getElem?_cons_succ, Option.map_some, cells3, cells24, List.length_cons, h8, List.length_nil, Nat.reduceAdd, Nat.zero_add, and_self]
  have b := build_all (P := Try.prog) (T := 46) [.agg p.cells.toArray, .int .i64 x] (out := reC (p, x)) (by kernel_rfl) zerRE (by simpa [Value.cells] using pl)
    (by simp [Value.cells, reC, prefZ, noBytes, h8, PrefM.cells, hp]) (by simp [Value.cells, reC]) w0 K
  simp only [pairs, Nat.zero_add, Nat.reduceAdd] at b
  exact b
theorem Own.stS {w : World} {B s : Nat} {e : TypeId} {n c i : Nat} {a : Addr} {xs : List Value} {v : Value} {K : World → Prop} (h : Own w B e s (some a) n c xs) (hi : i < n * s) (hv : v.oneCell' = true)
    (hK : ∀ w', Wr a.block w w' → B ≤ a.block → Own w' B e s (some a) n c (xs.set i v) → K w') : stCell v (a.add i) w K := by
  obtain ⟨h1, h2⟩ := h
  rcases h2 with ⟨hh, _⟩ | ⟨g, cap, cur, hh, hB, hg, hnc, hm, hs, ht⟩
  · cases hh
  · simp only [Value.slice.injEq, Option.some.injEq] at hh
    obtain ⟨rfl, -, rfl⟩ := hh
    have hb : Blk w g e cur.toList := by unfold Blk; simpa using hg
    rw [add_mk, Nat.zero_add]
    have hle : n * s ≤ c * s := Nat.mul_le_mul_right _ hnc
    refine st_cell hb (by simp only [Array.length_toList]; omega) hv fun w' k1 k2 => hK w' k1 hB ?_
    refine ⟨by simpa using h1, .inr ⟨g, c, (cur.toList.set i v).toArray, rfl, hB, k2, hnc, hm, by simpa using hs, ?_⟩⟩
    rw [List.toList_toArray, ← ht, List.take_set]
theorem map_set {l : List RE} (hn : (keysM l).Nodup) {p : PrefM} {x : Int} {i : Nat} {e : RE} (he : l[i]? = some e) (hp : e.1 = p) : l.map (fun e => if e.1 = p then (p, x) else e) = l.set i (p, x) := by
  have hi : i < l.length := (List.getElem?_eq_some_iff.1 he).1
  apply List.ext_getElem?
  intro j
  rw [List.getElem?_map]
  by_cases hij : i = j
  · subst hij
    rw [List.getElem?_set_self hi, he]
    simp [hp]
  · rw [List.getElem?_set_ne hij]
    cases hj : l[j]? with
    | none => rfl
    | some d =>
      have hjl : j < l.length := (List.getElem?_eq_some_iff.1 hj).1
      rw [Option.map_some, if_neg]
      intro hd
      have h1 : (keysM l)[i]? = some p := by unfold keysM; rw [List.getElem?_map, he]; simp [hp]
      have h2 : (keysM l)[j]? = some p := by unfold keysM; rw [List.getElem?_map, hj]; simp [hd]
      have hil : i < (keysM l).length := by unfold keysM; simpa using hi
      exact hij ((List.getElem?_inj hil hn).1 (h1.trans h2.symm))
theorem re_splice {e : RE} {p : PrefM} {x : Int} (he : e.1.addr.length = 7) (hp : e.1 = p) : splice (reC e) 8 [.int .i64 x] = reC (p, x) := by
  obtain ⟨q, y⟩ := e
  simp only at he hp
  subst hp
  have h8 : q.cells.length = 8 := by simp [PrefM.cells, he]
  unfold reC
  rw [splice_eq _ _ _ (by simp [h8])]
  simp [h8]
def PutRJ (l : List RE) (p : PrefM) (w : World) (v12 : Value) (w' : World) : Prop := ∃ k : Nat, v12 = .int .i64 k ∧ k ≤ l.length ∧ (∀ e ∈ l.take k, decide (plt e.1 p) = true) ∧ More w w'
def putR (l : List RE) (room : Nat) (p : PrefM) (x : Int) : List RE := if p ∈ keysM l ∨ l.length < room then putL l p x else l
theorem slice3_eq {P : Program} {T e : TypeId} {A : Option Addr} {n c k : Nat} (hT : P.underlying T = some (.slice e)) (hc : P.cellsOf e ≠ 0) (h : k ≤ c) (kl km : IntKind) (w0 : World) (K : Value → Prop) :
    sliceP P T (.slice A n c) none (some (.int kl (k : Int))) (some (.int km (k : Int))) K = K (.slice A k k) := by
  unfold sliceP
  rw [hT]
  refine pure_eq (fun w => ?_) w0 K
  unfold Instr.sliceAt Instr.slice Instr.sliceBounds
  have hA : (if k = 0 then A else A.map fun x => x.add (0 * P.cellsOf e)) = A := by
    split
    · rfl
    · cases A <;> simp [Addr.add]
  simp [run_un hT, size_run' hc, bound_run h, bound_run (Nat.le_refl k)]
  cases A <;> simp [Addr.add]
theorem del_cut {l : List RE} (hn : (keysM l).Nodup) {p : PrefM} {i : Nat} {e : RE} (he : l[i]? = some e) (hp : e.1 = p) : delL l p = l.take i ++ l.drop (i + 1) := by
  have hi : i < l.length := (List.getElem?_eq_some_iff.1 he).1
  have hsplit : l = l.take i ++ e :: l.drop (i + 1) := by
    conv => lhs; rw [← List.take_append_drop i l, List.drop_eq_getElem_cons hi]
    rw [List.getElem?_eq_getElem hi] at he
    rw [Option.some.inj he]
  have hno : ∀ (j : Nat) (d : RE), l[j]? = some d → j ≠ i → d.1 ≠ p := by
    intro j d hj hne hd
    have h1 : (keysM l)[i]? = some p := by unfold keysM; rw [List.getElem?_map, he]; simp [hp]
    have h2 : (keysM l)[j]? = some p := by unfold keysM; rw [List.getElem?_map, hj]; simp [hd]
    exact hne (((List.getElem?_inj (by unfold keysM; simpa using hi) hn).1 (h1.trans h2.symm)).symm)
  unfold delL
  conv => lhs; rw [hsplit]
  rw [List.filter_append, List.filter_cons_of_neg (by simp [hp])]
  congr 1
  · rw [List.filter_eq_self]
    intro d hd
    obtain ⟨j, hj⟩ := List.getElem?_of_mem hd
    have hjl : j < i := by have := (List.getElem?_eq_some_iff.1 hj).1; rw [List.length_take] at this; omega
    rw [List.getElem?_take, if_pos hjl] at hj
    simpa using hno j d hj (by omega)
  · rw [List.filter_eq_self]
    intro d hd
    obtain ⟨j, hj⟩ := List.getElem?_of_mem hd
    rw [List.getElem?_drop] at hj
    simpa using hno _ d hj (by omega)
theorem del_none {α : Type} {L : List (PrefM × α)} {p : PrefM} (hk : p ∉ keysM L) : delL L p = L := by
  unfold delL
  rw [List.filter_eq_self]
  intro e he
  simp only [ne_eq, decide_eq_true_eq]
  exact fun e' => hk (mem_keys.2 ⟨e.2, by rw [← e']; exact he⟩)
end Go.Proofs.Ytimhcjakpdebjaa
