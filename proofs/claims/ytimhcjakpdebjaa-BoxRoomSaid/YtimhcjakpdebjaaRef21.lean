/-
  Layer 21: the document's list in order.
-/
import Derived.Test.YtimhcjakpdebjaaTabM
namespace Go.Proofs.Ytimhcjakpdebjaa
open Go Go.RowKit Go.Proofs.RV
set_option linter.unusedSimpArgs false
set_option linter.unusedVariables false
set_option maxRecDepth 10000
set_option maxHeartbeats 4000000
/-- 'append(v[:n:n], x...)' -/
theorem app_cut {P : Program} {t ty e : TypeId} {z : Value} {size bytes n m c2 : Nat} {A A2 : Option Addr} {xs news : List Value} {w : World} {K : Value → World → Prop} (ht : P.underlying t = some (.slice e)) (hE : ElemT P e z size bytes) (hzs : z.cells.size = size) (hsz : 0 < size)
    (hA : A = none → n = 0) (hxs : Cs w A xs) (hxl : xs.length = n * size) (hsrc : Cs w A2 news) (hl : news.length = m * size) (hm : 0 < m) (h1 : ∀ u ∈ news, u.oneCell' = true) (h63 : n + m ≤ maxLen) (hbytes : (n + m) * bytes ≤ 140737488355328)
    (hK : ∀ A' c' w', Own w' w.heap.size e size A' (n + m) c' (xs ++ news) → More w w' → K (.slice A' (n + m) c') w') :
    runP P (Builtin.append_ #[t, t] ty #[.slice A n n, .slice A2 m c2]) w K := by
  cases A with
  | none =>
    have h0 := hA rfl
    subst h0
    have hx : xs = [] := List.eq_nil_of_length_eq_zero (by omega)
    subst hx
    refine app_mod (B := w.heap.size) ht hE hzs hsz (Own.nil _ _ _ _) hsrc hl h1 h63 hbytes (Nat.le_refl _) fun A' c' w' ho hm' _ => hK A' c' w' ho ?_
    exact Mod.more (More.refl w) hm' (fun k _ h => atB_none k h)
  | some a =>
    obtain ⟨i, hi, hz, hs, hby⟩ := info_parts hE
    rcases A2 with _ | ad
    · exfalso
      cases news with
      | nil =>
        have := Nat.mul_pos hm hsz
        simp at hl
        omega
      | cons u r =>
        obtain ⟨x, hx, _⟩ := hsrc 0 u rfl
        cases hx
    · have holds : ∀ j u, xs[j]? = some u → w.cell? (a.add j) = some u := by
        intro j u hu
        obtain ⟨x, hx, hc⟩ := hxs j u hu
        cases hx
        exact hc
      have hnews : ∀ (j : Nat) (u : Value), news[j]? = some u → w.cell? (ad.add j) = some u := by
        intro j u hu
        obtain ⟨x, hx, hc⟩ := hsrc j u hu
        cases hx
        exact hc
      have hr := run_append_grow (P := P) w t ty e i z ht hi hz a n n xs (by rw [hs]; omega) holds ad m c2 news (by rw [hs]; omega) hnews (by omega) (by simp only [maxLen] at h63; omega) (growslice_fits (by omega) (by rw [hby]; exact hbytes))
      have hge := grownCap_ge w (n + m) n e
      have hcm : grownCap w (n + m) n e ≤ maxLen := grownCap_le_maxLen w (n + m) n e h63
      refine ⟨_, _, hr, hK _ _ _ ⟨?_, .inr ⟨w.heap.size, _, _, rfl, Nat.le_refl _, heap_alloc_new w.drew _, hge, hcm, ?_, ?_⟩⟩ ⟨rfl, rfl, rfl, by simp, fun k hk => heap_alloc_old w.drew _ (by simpa using hk)⟩⟩
      · rw [List.length_append, Nat.add_mul]; omega
      · have hmul : (n + m) * size + (grownCap w (n + m) n e - (n + m)) * size = grownCap w (n + m) n e * size := by rw [← Nat.add_mul]; congr 1; omega
        simp only [Array.size_append, List.size_toArray, size_zeroCells, hzs]
        rw [← hmul, Nat.add_mul]
        omega
      · simp only [Array.toList_append, List.append_assoc]
        rw [← List.append_assoc, show (n + m) * size = (xs ++ news).length by rw [List.length_append, Nat.add_mul]; omega]
        exact List.take_left
/-! ### The order -/
theorem plt_v6 {p q : PrefM} (h : p.v6 ≠ q.v6) : decide (plt p q) = q.v6 := by
  have key : plt p q ↔ q.v6 = true := by
    show Lib.compareBytes (pkey p) (pkey q) < 0 ↔ _
    obtain ⟨a, l⟩ := p
    obtain ⟨b, m⟩ := q
    simp only at h
    cases a <;> cases b <;> simp_all [Lib.compareBytes, pkey]
  cases hq : q.v6
  · rw [hq] at key
    exact decide_eq_false fun h => by simp at key; exact key h
  · rw [hq] at key
    exact decide_eq_true (key.2 rfl)
def cmpAt (a b : List UInt8) : Bool := decide (Lib.compareBytes a b < 0)
theorem plt_addr {p q : PrefM} (h : p.v6 = q.v6) : decide (plt p q) = cmpAt p.addr q.addr := by
  unfold cmpAt
  rw [decide_eq_decide]
  show Lib.compareBytes (pkey p) (pkey q) < 0 ↔ _
  unfold pkey
  rw [h]
  conv => lhs; rw [Lib.compareBytes]
  rw [if_neg (UInt8.lt_irrefl _), if_neg (UInt8.lt_irrefl _)]
theorem cmp_drop {a b : List UInt8} {k : Nat} (ha : k < a.length) (hb : k < b.length) : cmpAt (a.drop k) (b.drop k) = if a[k] ≠ b[k] then decide (a[k] < b[k]) else cmpAt (a.drop (k + 1)) (b.drop (k + 1)) := by
  unfold cmpAt
  rw [List.drop_eq_getElem_cons ha, List.drop_eq_getElem_cons hb]
  conv => lhs; rw [Lib.compareBytes]
  by_cases h1 : a[k] < b[k]
  · rw [if_pos h1, if_pos (fun e => by rw [e] at h1; exact UInt8.lt_irrefl _ h1)]
    simp [h1]
  · rw [if_neg h1]
    by_cases h2 : b[k] < a[k]
    · rw [if_pos h2, if_pos (fun e => by rw [e] at h2; exact UInt8.lt_irrefl _ h2)]
      simp [h1]
    · rw [if_neg h2, if_neg (fun e => e (UInt8.le_antisymm (UInt8.not_lt.1 h2) (UInt8.not_lt.1 h1)))]
theorem bt_ne {a b : List UInt8} {k : Nat} (ha : k < a.length) (hb : k < b.length) : bt a k ≠ bt b k ↔ a[k] ≠ b[k] := by
  unfold bt
  rw [List.getD_eq_getElem?_getD, List.getD_eq_getElem?_getD, List.getElem?_eq_getElem ha, List.getElem?_eq_getElem hb]
  simp only [Option.getD_some, ne_eq, Int.natCast_inj]
  constructor
  · intro h e; rw [e] at h; exact h rfl
  · intro h e; exact h (UInt8.toNat.inj e)
theorem bt_ltI {a b : List UInt8} {k : Nat} (ha : k < a.length) (hb : k < b.length) : bt a k < bt b k ↔ a[k] < b[k] := by
  unfold bt
  rw [List.getD_eq_getElem?_getD, List.getD_eq_getElem?_getD, List.getElem?_eq_getElem ha, List.getElem?_eq_getElem hb]
  simp only [Option.getD_some, Int.ofNat_lt]
  exact Iff.rfl
def LessJ (p q : PrefM) (w : World) (v13 : Value) (w' : World) : Prop :=
  ∃ k : Nat, v13 = .int .i64 k ∧ k ≤ 7 ∧ cmpAt (p.addr.drop k) (q.addr.drop k) = cmpAt p.addr q.addr ∧ More w w'
theorem ref_less (w : World) (p q : PrefM) (hp : p.addr.length = 7) (hq : q.addr.length = 7) : Ret Try.prog 12 #[.agg p.cells.toArray, .agg q.cells.toArray] w fun v w' => v = .bool (decide (plt p q)) ∧ More w w' := by
  refine ret_of Try.func12 rfl (by kernel_rfl) (Nat.le_of_ble_eq_true (by kernel_rfl)) ?_
  have hm1 := more_alloc w (.cells p.cells.toArray 24)
  have hb1 := Blk.new w 24 p.cells.toArray
  have s1 := size_alloc w (.cells p.cells.toArray 24)
  have hm2 := more_alloc (w.alloc (.cells p.cells.toArray 24)) (.cells q.cells.toArray 24)
  have hb2 := Blk.new (w.alloc (.cells p.cells.toArray 24)) 24 q.cells.toArray
  rw [s1] at hb2
  replace hb1 := hb1.more hm2
  have hm := hm1.trans hm2
  rw [List.toList_toArray] at hb1 hb2
  have c1 : ((w.alloc (.cells p.cells.toArray 24)).alloc (.cells q.cells.toArray 24)).cell? ⟨w.heap.size, 0, none⟩ = some (.bool p.v6) := by rw [hb1.cell]; rfl
  have c2 : ((w.alloc (.cells p.cells.toArray 24)).alloc (.cells q.cells.toArray 24)).cell? ⟨w.heap.size + 1, 0, none⟩ = some (.bool q.v6) := by rw [hb2.cell]; rfl
  simp (config := {maxSteps := 1000000}) only [↓zvN, zvU, ↓up_apply, ↓hv_apply, ↓upO_some, ↓upO_none, ↓ev_tmp, ↓ev_const, ↓ev_func, ↓ev_global, init, Nat.reduceEqDiff, Nat.reduceAdd, Nat.reduceMul, Nat.reduceSub, ↓reduceIte, Int.reduceEq, Int.reduceNe, Nat.reduceLeDiff, one, Value.cells, Int.reduceLE, Int.reduceLT, Int.reduceToNat, add_mk, reduceCtorEq, List.mem_range'_1, true_and, and_true, and_false, false_and, Nat.reduceLT, Nat.reduceLeDiff, tyF, s1]
  by_cases hv : p.v6 = q.v6
  rotate_left
  · have hbq : (p.v6 == q.v6) = false := by simpa using hv
    simp (config := {maxSteps := 1000000}) only [↓zvN, zvU, ↓up_apply, ↓hv_apply, ↓upO_some, ↓upO_none, ↓ev_tmp, ↓ev_const, ↓ev_func, ↓ev_global, init, Nat.reduceEqDiff, Nat.reduceAdd, Nat.reduceMul, Nat.reduceSub, ↓reduceIte, Int.reduceEq, Int.reduceNe, Nat.reduceLeDiff, one, Value.cells, Int.reduceLE, Int.reduceLT, Int.reduceToNat, add_mk, reduceCtorEq, List.mem_range'_1, true_and, and_true, and_false, false_and, Nat.reduceLT, Nat.reduceLeDiff, tyF, c1, c2, s1, hbq]
    rw [plt_v6 hv]
    exact ⟨rfl, hm⟩
  have hbq : (p.v6 == q.v6) = true := by simpa using hv
  simp (config := {maxSteps := 1000000}) only [↓zvN, zvU, ↓up_apply, ↓hv_apply, ↓upO_some, ↓upO_none, ↓ev_tmp, ↓ev_const, ↓ev_func, ↓ev_global, init, Nat.reduceEqDiff, Nat.reduceAdd, Nat.reduceMul, Nat.reduceSub, ↓reduceIte, Int.reduceEq, Int.reduceNe, Nat.reduceLeDiff, one, Value.cells, Int.reduceLE, Int.reduceLT, Int.reduceToNat, add_mk, reduceCtorEq, List.mem_range'_1, true_and, and_true, and_false, false_and, Nat.reduceLT, Nat.reduceLeDiff, tyF, c1, c2, s1, hbq]
  rw [plt_addr hv]
  clear hbq c1 c2
  obtain ⟨w1, hw1⟩ : ∃ w1, (w.alloc (.cells p.cells.toArray 24)).alloc (.cells q.cells.toArray 24) = w1 := ⟨_, rfl⟩
  rw [hw1] at hm hb1 hb2 ⊢
  refine loop_p (5 :: List.range' 13 22) (fun e w' => LessJ p q w1 (e 13) w') (fun e _ => 7 - (numOf (e 13)).toNat) ?_ ?_
  · exact ⟨0, by simp only [hv_apply, up_apply, upO_some, upO_none, init, List.mem_cons, List.mem_range'_1, true_and, and_true, and_false, false_and, Nat.reduceLT, Nat.reduceLeDiff, Nat.reduceAdd, true_or, or_true, if_true, if_false, ↓reduceIte, Nat.reduceEqDiff, false_or, or_false, List.not_mem_nil, List.getElem?_cons_zero, List.getElem?_cons_succ, Option.getD_some] <;> rfl, by omega, rfl, More.refl _⟩
  rintro v w2 ⟨k, h13, hk, hc, hm2⟩
  simp only [hv_apply, up_apply, upO_some, upO_none, init, List.mem_cons, List.mem_range'_1, true_and, and_true, and_false, false_and, Nat.reduceLT, Nat.reduceLeDiff, Nat.reduceAdd, true_or, or_true, if_true, if_false, ↓reduceIte, Nat.reduceEqDiff, false_or, or_false, List.not_mem_nil, List.getElem?_cons_zero, List.getElem?_cons_succ, Option.getD_some] at h13
  have ek : IntKind.i64.wrap ((k : Int) + 1) = ((k + 1 : Nat) : Int) := w64 (by omega) (by omega)
  simp (config := {maxSteps := 1000000}) only [↓zvN, zvU, ↓up_apply, ↓hv_apply, ↓upO_some, ↓upO_none, ↓ev_tmp, ↓ev_const, ↓ev_func, ↓ev_global, init, Nat.reduceEqDiff, Nat.reduceAdd, Nat.reduceMul, Nat.reduceSub, ↓reduceIte, Int.reduceEq, Int.reduceNe, Nat.reduceLeDiff, one, Value.cells, Int.reduceLE, Int.reduceLT, Int.reduceToNat, add_mk, reduceCtorEq, List.mem_range'_1, true_and, and_true, and_false, false_and, Nat.reduceLT, Nat.reduceLeDiff, tyF, h13]
  refine ⟨fun h9 => ?_, fun h9 => ?_⟩
  rotate_left
  · obtain rfl : k = 7 := by omega
    rw [← hc, List.drop_eq_nil_of_le (by omega), List.drop_eq_nil_of_le (by omega)]
    exact ⟨rfl, hm.trans hm2⟩
  have hk7 : k < 7 := by omega
  have g0 : (0 : Int) ≤ (k : Int) := by omega
  have d1 : w2.cell? ⟨w.heap.size, 1 + k, none⟩ = some (.int .u8 (bt p.addr k)) := by rw [(hb1.more hm2).cell, PrefM.cells, Nat.add_comm, List.getElem?_cons_succ]; exact byteV_bt (by omega)
  have d2 : w2.cell? ⟨w.heap.size + 1, 1 + k, none⟩ = some (.int .u8 (bt q.addr k)) := by rw [(hb2.more hm2).cell, PrefM.cells, Nat.add_comm, List.getElem?_cons_succ]; exact byteV_bt (by omega)
  have l1 := (hb1.more hm2).lt
  have l2 := (hb2.more hm2).lt
  rw [cmp_drop (by omega) (by omega)] at hc
  have hne := bt_ne (a := p.addr) (b := q.addr) (k := k) (by omega) (by omega)
  have hlt := bt_ltI (a := p.addr) (b := q.addr) (k := k) (by omega) (by omega)
  simp (config := {maxSteps := 1000000}) only [↓zvN, zvU, ↓up_apply, ↓hv_apply, ↓upO_some, ↓upO_none, ↓ev_tmp, ↓ev_const, ↓ev_func, ↓ev_global, init, Nat.reduceEqDiff, Nat.reduceAdd, Nat.reduceMul, Nat.reduceSub, ↓reduceIte, Int.reduceEq, Int.reduceNe, Nat.reduceLeDiff, one, Value.cells, Int.reduceLE, Int.reduceLT, Int.reduceToNat, add_mk, reduceCtorEq, List.mem_range'_1, true_and, and_true, and_false, false_and, Nat.reduceLT, Nat.reduceLeDiff, tyF, h13, g0, h9, hk7]
  refine draw_calm mixed (by kernel_rfl) ?_
  simp (config := {maxSteps := 1000000}) only [↓zvN, zvU, ↓zqD, ↓up_apply, ↓hv_apply, ↓upO_some, ↓upO_none, ↓ev_tmp, ↓ev_const, ↓ev_func, ↓ev_global, init, Nat.reduceEqDiff, Nat.reduceAdd, Nat.reduceMul, Nat.reduceSub, ↓reduceIte, Int.reduceEq, Int.reduceNe, Nat.reduceLeDiff, one, Value.cells, Int.reduceLE, Int.reduceLT, Int.reduceToNat, add_mk, reduceCtorEq, List.mem_range'_1, true_and, and_true, and_false, false_and, Nat.reduceLT, Nat.reduceLeDiff, tyF, h13, g0, h9, hk7, d1, d2, l1, l2, Int.toNat_natCast]
  intro w3 hm3
  have hm23 := hm2.trans hm3
  refine ⟨fun e => ?_, fun e => ?_⟩
  · rw [if_neg (fun h => (hne.2 h) e)] at hc
    rw [ek]
    refine ⟨⟨?_, k + 1, rfl, by omega, hc, hm23⟩, by simp only [numOf]; omega⟩
    repeat (first | exact Same.hv _ _ _ | refine Same.up (by simp) ?_)
  · rw [if_pos (hne.1 e)] at hc
    have d1 := (hb1.more hm23)
    have d2 := (hb2.more hm23)
    have e1 : w3.cell? ⟨w.heap.size, 1 + k, none⟩ = some (.int .u8 (bt p.addr k)) := by rw [d1.cell, PrefM.cells, Nat.add_comm, List.getElem?_cons_succ]; exact byteV_bt (by omega)
    have e2 : w3.cell? ⟨w.heap.size + 1, 1 + k, none⟩ = some (.int .u8 (bt q.addr k)) := by rw [d2.cell, PrefM.cells, Nat.add_comm, List.getElem?_cons_succ]; exact byteV_bt (by omega)
    have l1 := d1.lt
    have l2 := d2.lt
    refine draw_calm mixed (by kernel_rfl) ?_
    simp (config := {maxSteps := 1000000}) only [↓zvN, zvU, ↓zqD, ↓up_apply, ↓hv_apply, ↓upO_some, ↓upO_none, ↓ev_tmp, ↓ev_const, ↓ev_func, ↓ev_global, init, Nat.reduceEqDiff, Nat.reduceAdd, Nat.reduceMul, Nat.reduceSub, ↓reduceIte, Int.reduceEq, Int.reduceNe, Nat.reduceLeDiff, one, Value.cells, Int.reduceLE, Int.reduceLT, Int.reduceToNat, add_mk, reduceCtorEq, List.mem_range'_1, true_and, and_true, and_false, false_and, Nat.reduceLT, Nat.reduceLeDiff, tyF, h13, g0, h9, hk7, e1, e2, l1, l2, Int.toNat_natCast]
    intro w4 hm4
    have er : decide (bt p.addr k < bt q.addr k) = cmpAt p.addr q.addr := by rw [← hc, decide_eq_decide]; exact hlt
    try simp (config := {maxSteps := 1000000}) only [↓zvN, zvU, ↓up_apply, ↓hv_apply, ↓upO_some, ↓upO_none, ↓ev_tmp, ↓ev_const, ↓ev_func, ↓ev_global, init, Nat.reduceEqDiff, Nat.reduceAdd, Nat.reduceMul, Nat.reduceSub, ↓reduceIte, Int.reduceEq, Int.reduceNe, Nat.reduceLeDiff, one, Value.cells, Int.reduceLE, Int.reduceLT, Int.reduceToNat, add_mk, reduceCtorEq, List.mem_range'_1, true_and, and_true, and_false, false_and, Nat.reduceLT, Nat.reduceLeDiff, tyF, er]
    exact ⟨rfl, (hm.trans hm23).trans hm4⟩
theorem Cs.lt' {w : World} {a : Addr} {cs : List Value} (h : Cs w (some a) cs) (h0 : 0 < cs.length) : a.block < w.heap.size := by
  cases cs with
  | nil => simp at h0
  | cons v r =>
    obtain ⟨x, hx, hl⟩ := Cs.lt h
    cases hx
    exact hl
theorem addr_zero (a : Addr) : a.add 0 = a := by unfold Addr.add; rw [if_pos rfl]
/-! ### The list's rows -/
abbrev RE := PrefM × Int
def reC (e : RE) : List Value := e.1.cells ++ [.int .i64 e.2]
def ReOk (l : List RE) : Prop := ∀ e ∈ l, e.1.addr.length = 7
theorem reC_len {e : RE} (h : e.1.addr.length = 7) : (reC e).length = 9 := by simp [reC, PrefM.cells, h]
theorem ReOk.lens {l : List RE} (h : ReOk l) : ∀ e ∈ l, (reC e).length = 9 := fun e he => reC_len (h e he)
theorem reC_one (e : RE) : ∀ u ∈ reC e, u.oneCell' = true := by
  intro u hu
  rcases List.mem_append.1 hu with h | h
  · exact PrefM.one _ u h
  · simp at h; subst h; rfl
/-- where p is; -1: nowhere -/
def idxL (p : PrefM) : List RE → Nat → Int
  | [], _ => -1
  | e :: l, k => if e.1 = p then (k : Int) else idxL p l (k + 1)
def FindRJ (l : List RE) (p : PrefM) (w : World) (v8 : Value) (w' : World) : Prop :=
  ∃ k : Nat, v8 = .int .i64 k ∧ k ≤ l.length ∧ idxL p (l.drop k) k = idxL p l 0 ∧ More w w'
theorem ref_find (w : World) (A : Option Addr) (l : List RE) (c : Nat) (p : PrefM) (hp : p.addr.length = 7) (hA : Cs w A (l.flatMap reC)) (hO : ReOk l) (hl : l.length ≤ 1000000) :
    Ret Try.prog 19 #[.slice A l.length c, .agg p.cells.toArray] w fun v w' => v = .int .i64 (idxL p l 0) ∧ More w w' := by
  refine ret_of Try.func19 rfl (by kernel_rfl) (Nat.le_of_ble_eq_true (by kernel_rfl)) ?_
  have hm1 := more_alloc w (.cells p.cells.toArray 24)
  have hb1 := Blk.new w 24 p.cells.toArray
  simp (config := {maxSteps := 1000000}) only [↓zvN, zvU, ↓up_apply, ↓hv_apply, ↓upO_some, ↓upO_none, ↓ev_tmp, ↓ev_const, ↓ev_func, ↓ev_global, init, Nat.reduceEqDiff, Nat.reduceAdd, Nat.reduceMul, Nat.reduceSub, ↓reduceIte, Int.reduceEq, Int.reduceNe, Nat.reduceLeDiff, one, Value.cells, Int.reduceLE, Int.reduceLT, Int.reduceToNat, add_mk, reduceCtorEq, List.mem_range'_1, true_and, and_true, and_false, false_and, Nat.reduceLT, Nat.reduceLeDiff, tyF]
  obtain ⟨w1, hw1⟩ : ∃ w1, w.alloc (.cells p.cells.toArray 24) = w1 := ⟨_, rfl⟩
  rw [hw1] at hm1 hb1 ⊢
  clear hw1
  rw [List.toList_toArray] at hb1
  obtain ⟨pb, hpb⟩ : ∃ q, w.heap.size = q := ⟨_, rfl⟩
  rw [hpb] at hb1 ⊢
  have hpl : p.cells.length = 8 := by simp [PrefM.cells, hp]
  try simp (config := {maxSteps := 1000000}) only [↓zvN, zvU, ↓up_apply, ↓hv_apply, ↓upO_some, ↓upO_none, ↓ev_tmp, ↓ev_const, ↓ev_func, ↓ev_global, init, Nat.reduceEqDiff, Nat.reduceAdd, Nat.reduceMul, Nat.reduceSub, ↓reduceIte, Int.reduceEq, Int.reduceNe, Nat.reduceLeDiff, one, Value.cells, Int.reduceLE, Int.reduceLT, Int.reduceToNat, add_mk, reduceCtorEq, List.mem_range'_1, true_and, and_true, and_false, false_and, Nat.reduceLT, Nat.reduceLeDiff, tyF]
  refine loop_p (5 :: List.range' 8 12) (fun e w' => FindRJ l p w1 (e 8) w') (fun e _ => l.length - (numOf (e 8)).toNat) ?_ ?_
  · exact ⟨0, by simp only [hv_apply, up_apply, upO_some, upO_none, init, List.mem_cons, List.mem_range'_1, true_and, and_true, and_false, false_and, Nat.reduceLT, Nat.reduceLeDiff, Nat.reduceAdd, true_or, or_true, if_true, if_false, ↓reduceIte, Nat.reduceEqDiff, false_or, or_false, List.not_mem_nil, List.getElem?_cons_zero, List.getElem?_cons_succ, Option.getD_some] <;> rfl, by omega, rfl, More.refl _⟩
  rintro v w2 ⟨k, h8, hk, hc, hm2⟩
  simp only [hv_apply, up_apply, upO_some, upO_none, init, List.mem_cons, List.mem_range'_1, true_and, and_true, and_false, false_and, Nat.reduceLT, Nat.reduceLeDiff, Nat.reduceAdd, true_or, or_true, if_true, if_false, ↓reduceIte, Nat.reduceEqDiff, false_or, or_false, List.not_mem_nil, List.getElem?_cons_zero, List.getElem?_cons_succ, Option.getD_some] at h8
  have ek : IntKind.i64.wrap ((k : Int) + 1) = ((k + 1 : Nat) : Int) := w64 (by omega) (by omega)
  simp (config := {maxSteps := 1000000}) only [↓zvN, zvU, ↓up_apply, ↓hv_apply, ↓upO_some, ↓upO_none, ↓ev_tmp, ↓ev_const, ↓ev_func, ↓ev_global, init, Nat.reduceEqDiff, Nat.reduceAdd, Nat.reduceMul, Nat.reduceSub, ↓reduceIte, Int.reduceEq, Int.reduceNe, Nat.reduceLeDiff, one, Value.cells, Int.reduceLE, Int.reduceLT, Int.reduceToNat, add_mk, reduceCtorEq, List.mem_range'_1, true_and, and_true, and_false, false_and, Nat.reduceLT, Nat.reduceLeDiff, tyF, h8]
  refine ⟨fun h9 => ?_, fun h9 => ?_⟩
  rotate_left
  · obtain rfl : k = l.length := by omega
    rw [← hc, List.drop_length]
    exact ⟨rfl, hm1.trans hm2⟩
  obtain ⟨m, hm⟩ := row_nat l k (by omega)
  obtain ⟨a, rfl⟩ := hA.some_of (by rw [row_len l hO.lens]; omega)
  have hmo := hO m (List.mem_of_getElem? hm)
  have hm12 := hm1.trans hm2
  have hA2 := hA.more hm12
  have rd : ∀ K : Value → Prop, ldRow 8 (a.add (k * 9)) w2 K = K (.agg m.1.cells.toArray) := fun K => by
    have h8 : m.1.cells.length = 8 := by simp [PrefM.cells, hmo]
    refine ldRow_eq h8 (fun j hj => ?_) K
    rw [hA2.elemA hO.lens hm (by omega), reC, List.getElem?_append_left (by omega)]
  have hdk : l.drop k = m :: l.drop (k + 1) := by
    rw [List.drop_eq_getElem_cons (by omega)]
    congr 1
    rw [List.getElem?_eq_getElem (by omega)] at hm
    exact Option.some.inj hm
  rw [hdk, idxL] at hc
  have g0 : (0 : Int) ≤ (k : Int) := by omega
  have peq := pref_eq hmo hp w2
  have v1 := (hb1.more hm2).all_eq 8 hpl
  have l1 := (hb1.more hm2).lt
  have la : a.block < w2.heap.size := Cs.lt' hA2 (by rw [row_len l hO.lens]; omega)
  simp (config := {maxSteps := 1000000}) only [↓zvN, zvU, ↓up_apply, ↓hv_apply, ↓upO_some, ↓upO_none, ↓ev_tmp, ↓ev_const, ↓ev_func, ↓ev_global, init, Nat.reduceEqDiff, Nat.reduceAdd, Nat.reduceMul, Nat.reduceSub, ↓reduceIte, Int.reduceEq, Int.reduceNe, Nat.reduceLeDiff, one, Value.cells, Int.reduceLE, Int.reduceLT, Int.reduceToNat, add_mk, reduceCtorEq, List.mem_range'_1, true_and, and_true, and_false, false_and, Nat.reduceLT, Nat.reduceLeDiff, tyF, h8, g0, h9]
  refine draw_calm mixed (by kernel_rfl) ?_
  by_cases he : m.1 = p
  · rw [if_pos he] at hc
    have peq2 : ∀ ox oy K, _ := fun ox oy K => (peq ox oy K).trans (show _ = K (.bool true) by simp only [he, decide_true])
    simp (config := {maxSteps := 1000000}) only [↓zvN, zvU, ↓zqD, ↓up_apply, ↓hv_apply, ↓upO_some, ↓upO_none, ↓ev_tmp, ↓ev_const, ↓ev_func, ↓ev_global, init, Nat.reduceEqDiff, Nat.reduceAdd, Nat.reduceMul, Nat.reduceSub, ↓reduceIte, Int.reduceEq, Int.reduceNe, Nat.reduceLeDiff, one, Value.cells, Int.reduceLE, Int.reduceLT, Int.reduceToNat, add_mk, reduceCtorEq, List.mem_range'_1, true_and, and_true, and_false, false_and, Nat.reduceLT, Nat.reduceLeDiff, tyF, h8, g0, h9, addr_zero, rd, v1, l1, la, peq2, Int.toNat_natCast]
    intro w3 hm3
    rw [hc]
    exact ⟨rfl, hm12.trans hm3⟩
  · rw [if_neg he] at hc
    have peq2 : ∀ ox oy K, _ := fun ox oy K => (peq ox oy K).trans (show _ = K (.bool false) by simp only [he, decide_false])
    simp (config := {maxSteps := 1000000}) only [↓zvN, zvU, ↓zqD, ↓up_apply, ↓hv_apply, ↓upO_some, ↓upO_none, ↓ev_tmp, ↓ev_const, ↓ev_func, ↓ev_global, init, Nat.reduceEqDiff, Nat.reduceAdd, Nat.reduceMul, Nat.reduceSub, ↓reduceIte, Int.reduceEq, Int.reduceNe, Nat.reduceLeDiff, one, Value.cells, Int.reduceLE, Int.reduceLT, Int.reduceToNat, add_mk, reduceCtorEq, List.mem_range'_1, true_and, and_true, and_false, false_and, Nat.reduceLT, Nat.reduceLeDiff, tyF, h8, g0, h9, addr_zero, rd, v1, l1, la, peq2, Int.toNat_natCast]
    intro w3 hm3
    try simp (config := {maxSteps := 1000000}) only [↓zvN, zvU, ↓up_apply, ↓hv_apply, ↓upO_some, ↓upO_none, ↓ev_tmp, ↓ev_const, ↓ev_func, ↓ev_global, init, Nat.reduceEqDiff, Nat.reduceAdd, Nat.reduceMul, Nat.reduceSub, ↓reduceIte, Int.reduceEq, Int.reduceNe, Nat.reduceLeDiff, one, Value.cells, Int.reduceLE, Int.reduceLT, Int.reduceToNat, add_mk, reduceCtorEq, List.mem_range'_1, true_and, and_true, and_false, false_and, Nat.reduceLT, Nat.reduceLeDiff, tyF]
    rw [ek]
    refine ⟨⟨?_, k + 1, rfl, by omega, hc, hm2.trans hm3⟩, by simp only [numOf]; omega⟩
    repeat (first | exact Same.hv _ _ _ | refine Same.up (by simp) ?_)
theorem idx_neg {p : PrefM} : ∀ (l : List RE) (k : Nat), idxL p l k = -1 ∨ ∃ i, idxL p l k = ((k + i : Nat) : Int) ∧ i < l.length ∧ ∃ e, l[i]? = some e ∧ e.1 = p
  | [], k => .inl rfl
  | e :: l, k => by
    unfold idxL
    by_cases h : e.1 = p
    · rw [if_pos h]
      exact .inr ⟨0, by omega, by simp, e, rfl, h⟩
    · rw [if_neg h]
      rcases idx_neg l (k + 1) with h1 | ⟨i, h1, h2, e', h3, h4⟩
      · exact .inl h1
      · exact .inr ⟨i + 1, by rw [h1]; congr 1; omega, by simp; omega, e', by simpa using h3, h4⟩
theorem idx_mem {p : PrefM} : ∀ (l : List RE) (k : Nat), 0 ≤ idxL p l k ↔ p ∈ keysM l
  | [], k => by simp [idxL, keysM]
  | e :: l, k => by
    have hk : p ∈ keysM (e :: l) ↔ p = e.1 ∨ p ∈ keysM l := List.mem_cons
    unfold idxL
    rw [hk]
    by_cases h : e.1 = p
    · rw [if_pos h]
      exact ⟨fun _ => .inl h.symm, fun _ => by omega⟩
    · rw [if_neg h, idx_mem l (k + 1)]
      exact ⟨.inr, fun h1 => by rcases h1 with h1 | h1; exact absurd h1.symm h; exact h1⟩
theorem idx_get {p : PrefM} {l : List RE} (h : p ∈ keysM l) : ∃ i : Nat, idxL p l 0 = i ∧ i < l.length ∧ ∃ e, l[i]? = some e ∧ e.1 = p := by
  have h0 := (idx_mem l 0).2 h
  rcases idx_neg (p := p) l 0 with h1 | ⟨i, h1, h2, h3⟩
  · omega
  · exact ⟨i, by rw [h1, Nat.zero_add], h2, h3⟩
def PrefRJ (l : List RE) (w : World) (v3 v7 : Value) (w' : World) : Prop :=
  ∃ (k : Nat) (A : Option Addr) (c : Nat), v7 = .int .i64 k ∧ k ≤ l.length ∧ v3 = .slice A k c ∧ Own w' w.heap.size 24 8 A k c ((keysM (l.take k)).flatMap PrefM.cells) ∧ More w w'
theorem ref_prefixes (w : World) (A : Option Addr) (l : List RE) (c : Nat) (hA : Cs w A (l.flatMap reC)) (hO : ReOk l) (hl : l.length ≤ 1000000) :
    Ret Try.prog 23 #[.slice A l.length c] w fun v w' => ∃ A' c', v = .slice A' l.length c' ∧ Cs w' A' ((keysM l).flatMap PrefM.cells) ∧ More w w' := by
  refine ret_of Try.func23 rfl (by kernel_rfl) (Nat.le_of_ble_eq_true (by kernel_rfl)) ?_
  simp (config := {maxSteps := 1000000}) only [↓zvN, zvU, ↓up_apply, ↓hv_apply, ↓upO_some, ↓upO_none, ↓ev_tmp, ↓ev_const, ↓ev_func, ↓ev_global, init, Nat.reduceEqDiff, Nat.reduceAdd, Nat.reduceMul, Nat.reduceSub, ↓reduceIte, Int.reduceEq, Int.reduceNe, Nat.reduceLeDiff, one, Value.cells, Int.reduceLE, Int.reduceLT, Int.reduceToNat, add_mk, reduceCtorEq, List.mem_range'_1, true_and, and_true, and_false, false_and, Nat.reduceLT, Nat.reduceLeDiff, tyF]
  refine loop_p (3 :: 4 :: List.range' 7 12) (fun e w' => PrefRJ l w (e 3) (e 7) w') (fun e _ => l.length - (numOf (e 7)).toNat) ?_ ?_
  · exact ⟨0, none, 0, by simp only [hv_apply, up_apply, upO_some, upO_none, init, List.mem_cons, List.mem_range'_1, true_and, and_true, and_false, false_and, Nat.reduceLT, Nat.reduceLeDiff, Nat.reduceAdd, true_or, or_true, if_true, if_false, ↓reduceIte, Nat.reduceEqDiff, false_or, or_false, List.not_mem_nil, List.getElem?_cons_zero, List.getElem?_cons_succ, Option.getD_some] <;> rfl, by omega, by simp only [hv_apply, up_apply, upO_some, upO_none, init, List.mem_cons, List.mem_range'_1, true_and, and_true, and_false, false_and, Nat.reduceLT, Nat.reduceLeDiff, Nat.reduceAdd, true_or, or_true, if_true, if_false, ↓reduceIte, Nat.reduceEqDiff, false_or, or_false, List.not_mem_nil, List.getElem?_cons_zero, List.getElem?_cons_succ, Option.getD_some] <;> rfl, Own.nil _ _ _ _, More.refl _⟩
  rintro v w2 ⟨k, A2, c2, h7, hk, h3, ho2, hm2⟩
  simp only [hv_apply, up_apply, upO_some, upO_none, init, List.mem_cons, List.mem_range'_1, true_and, and_true, and_false, false_and, Nat.reduceLT, Nat.reduceLeDiff, Nat.reduceAdd, true_or, or_true, if_true, if_false, ↓reduceIte, Nat.reduceEqDiff, false_or, or_false, List.not_mem_nil, List.getElem?_cons_zero, List.getElem?_cons_succ, Option.getD_some] at h7 h3
  have ek : IntKind.i64.wrap ((k : Int) + 1) = ((k + 1 : Nat) : Int) := w64 (by omega) (by omega)
  simp (config := {maxSteps := 1000000}) only [↓zvN, zvU, ↓up_apply, ↓hv_apply, ↓upO_some, ↓upO_none, ↓ev_tmp, ↓ev_const, ↓ev_func, ↓ev_global, init, Nat.reduceEqDiff, Nat.reduceAdd, Nat.reduceMul, Nat.reduceSub, ↓reduceIte, Int.reduceEq, Int.reduceNe, Nat.reduceLeDiff, one, Value.cells, Int.reduceLE, Int.reduceLT, Int.reduceToNat, add_mk, reduceCtorEq, List.mem_range'_1, true_and, and_true, and_false, false_and, Nat.reduceLT, Nat.reduceLeDiff, tyF, h7, h3]
  refine ⟨fun h9 => ?_, fun h9 => ?_⟩
  rotate_left
  · obtain rfl : k = l.length := by omega
    rw [List.take_length] at ho2
    exact ⟨A2, c2, rfl, ho2.cs, hm2⟩
  obtain ⟨m, hm⟩ := row_nat l k (by omega)
  obtain ⟨a, rfl⟩ := hA.some_of (by rw [row_len l hO.lens]; omega)
  have hmo := hO m (List.mem_of_getElem? hm)
  have hA2 := hA.more hm2
  have h8 : m.1.cells.length = 8 := by simp [PrefM.cells, hmo]
  have rd : ∀ K : Value → Prop, ldRow 8 (a.add (k * 9)) w2 K = K (.agg m.1.cells.toArray) := fun K => by
    refine ldRow_eq h8 (fun j hj => ?_) K
    rw [hA2.elemA hO.lens hm (by omega), reC, List.getElem?_append_left (by omega)]
  have g0 : (0 : Int) ≤ (k : Int) := by omega
  simp (config := {maxSteps := 1000000}) only [↓zvN, zvU, ↓up_apply, ↓hv_apply, ↓upO_some, ↓upO_none, ↓ev_tmp, ↓ev_const, ↓ev_func, ↓ev_global, init, Nat.reduceEqDiff, Nat.reduceAdd, Nat.reduceMul, Nat.reduceSub, ↓reduceIte, Int.reduceEq, Int.reduceNe, Nat.reduceLeDiff, one, Value.cells, Int.reduceLE, Int.reduceLT, Int.reduceToNat, add_mk, reduceCtorEq, List.mem_range'_1, true_and, and_true, and_false, false_and, Nat.reduceLT, Nat.reduceLeDiff, tyF, h7, h3, g0, h9, addr_zero, rd, Int.toNat_natCast]
  refine bslice1 Try.underlying39 prefE (by omega) (by omega) h8 ?_
  have hm6 := more_alloc w2 (.cells m.1.cells.toArray 24)
  have hb6 := Blk.new w2 24 m.1.cells.toArray
  simp (config := {maxSteps := 1000000}) only [↓zvN, zvU, ↓up_apply, ↓hv_apply, ↓upO_some, ↓upO_none, ↓ev_tmp, ↓ev_const, ↓ev_func, ↓ev_global, init, Nat.reduceEqDiff, Nat.reduceAdd, Nat.reduceMul, Nat.reduceSub, ↓reduceIte, Int.reduceEq, Int.reduceNe, Nat.reduceLeDiff, one, Value.cells, Int.reduceLE, Int.reduceLT, Int.reduceToNat, add_mk, reduceCtorEq, List.mem_range'_1, true_and, and_true, and_false, false_and, Nat.reduceLT, Nat.reduceLeDiff, tyF, h7, h3]
  obtain ⟨w6, hw6⟩ : ∃ w6, w2.alloc (.cells m.1.cells.toArray 24) = w6 := ⟨_, rfl⟩
  rw [hw6] at hm6 hb6 ⊢
  clear hw6
  rw [List.toList_toArray] at hb6
  have hsz := (hm2.trans hm6).size
  refine app_mod (m := 1) (news := m.1.cells) Try.underlying39 prefE rfl (by omega) (ho2.more hm6) hb6.cs (by rw [h8]) (PrefM.one _) (by simp only [maxLen]; omega) (by omega) (by omega) ?_
  intro A9 c9 w9 ho9 hmod9 hat9
  have hm9 : More w w9 := Mod.more (hm2.trans hm6) hmod9 (fun k hk h => by have := ho2.atB_ge h; omega)
  simp (config := {maxSteps := 1000000}) only [↓zvN, zvU, ↓up_apply, ↓hv_apply, ↓upO_some, ↓upO_none, ↓ev_tmp, ↓ev_const, ↓ev_func, ↓ev_global, init, Nat.reduceEqDiff, Nat.reduceAdd, Nat.reduceMul, Nat.reduceSub, ↓reduceIte, Int.reduceEq, Int.reduceNe, Nat.reduceLeDiff, one, Value.cells, Int.reduceLE, Int.reduceLT, Int.reduceToNat, add_mk, reduceCtorEq, List.mem_range'_1, true_and, and_true, and_false, false_and, Nat.reduceLT, Nat.reduceLeDiff, tyF, h7, h3, ek]
  have hrow : (keysM (l.take (k + 1))).flatMap PrefM.cells = (keysM (l.take k)).flatMap PrefM.cells ++ m.1.cells := by
    rw [List.take_add_one, hm]
    simp [keysM]
  refine ⟨⟨?_, k + 1, A9, c9, rfl, by omega, rfl, by rw [hrow]; exact ho9, hm9⟩, by simp only [numOf]; omega⟩
  repeat (first | exact Same.hv _ _ _ | refine Same.up (by simp) ?_)
open Classical in
theorem pref_ne {a b : PrefM} (ha : a.addr.length = 7) (hb : b.addr.length = 7) (w0 : World) (ox oy : Operand) (K : Value → Prop) :
    pureP Try.prog (do eqGuard .neq 24 ox oy (.agg a.cells.toArray) (.agg b.cells.toArray); binOp .neq 24 (.agg a.cells.toArray) (.agg b.cells.toArray)) K = K (.bool (decide (a ≠ b))) := by
  rw [neq_flat (n := 4) pref_g ⟨pref_tv _, pref_tv _⟩ (pref_flat ha 0) (pref_flat hb 0) (by omega) w0 ox oy K]
  simp only [ne_eq, PrefM.cells_inj]
  congr 2
  by_cases h : a = b <;> simp [h]
def SameRJ (l m : List PrefM) (w : World) (v13 : Value) (w' : World) : Prop := ∃ k : Nat, v13 = .int .i64 k ∧ k ≤ l.length ∧ l.take k = m.take k ∧ More w w'
theorem ref_same (w : World) (A B : Option Addr) (l m : List PrefM) (c d : Nat) (hA : Cs w A (l.flatMap PrefM.cells)) (hB : Cs w B (m.flatMap PrefM.cells)) (hl : ∀ p ∈ l, p.addr.length = 7) (hm : ∀ p ∈ m, p.addr.length = 7) (hll : l.length ≤ 1000000) (hml : m.length ≤ 1000000) :
    Ret Try.prog 22 #[.slice A l.length c, .slice B m.length d] w fun v w' => v = .bool (decide (l = m)) ∧ More w w' := by
  refine ret_of Try.func22 rfl (by kernel_rfl) (Nat.le_of_ble_eq_true (by kernel_rfl)) ?_
  have c8 : ∀ {p : PrefM}, p.addr.length = 7 → p.cells.length = 8 := fun h => by simp [PrefM.cells, h]
  have lensL : ∀ p ∈ l, p.cells.length = 8 := fun p hp => c8 (hl p hp)
  have lensM : ∀ p ∈ m, p.cells.length = 8 := fun p hp => c8 (hm p hp)
  by_cases hlen : l.length = m.length
  rotate_left
  · have hI : ¬ (l.length : Int) = (m.length : Int) := by omega
    have hd : decide (l = m) = false := decide_eq_false fun h => hlen (by rw [h])
    simp (config := {maxSteps := 1000000}) only [↓zvN, zvU, ↓up_apply, ↓hv_apply, ↓upO_some, ↓upO_none, ↓ev_tmp, ↓ev_const, ↓ev_func, ↓ev_global, init, Nat.reduceEqDiff, Nat.reduceAdd, Nat.reduceMul, Nat.reduceSub, ↓reduceIte, Int.reduceEq, Int.reduceNe, Nat.reduceLeDiff, one, Value.cells, Int.reduceLE, Int.reduceLT, Int.reduceToNat, add_mk, reduceCtorEq, List.mem_range'_1, true_and, and_true, and_false, false_and, Nat.reduceLT, Nat.reduceLeDiff, tyF, hI]
    rw [hd]
    exact ⟨rfl, More.refl _⟩
  have hI : (l.length : Int) = (m.length : Int) := by omega
  simp (config := {maxSteps := 1000000}) only [↓zvN, zvU, ↓up_apply, ↓hv_apply, ↓upO_some, ↓upO_none, ↓ev_tmp, ↓ev_const, ↓ev_func, ↓ev_global, init, Nat.reduceEqDiff, Nat.reduceAdd, Nat.reduceMul, Nat.reduceSub, ↓reduceIte, Int.reduceEq, Int.reduceNe, Nat.reduceLeDiff, one, Value.cells, Int.reduceLE, Int.reduceLT, Int.reduceToNat, add_mk, reduceCtorEq, List.mem_range'_1, true_and, and_true, and_false, false_and, Nat.reduceLT, Nat.reduceLeDiff, tyF, hI]
  refine loop_p (5 :: List.range' 13 13) (fun e w' => SameRJ l m w (e 13) w') (fun e _ => l.length - (numOf (e 13)).toNat) ?_ ?_
  · exact ⟨0, by simp only [hv_apply, up_apply, upO_some, upO_none, init, List.mem_cons, List.mem_range'_1, true_and, and_true, and_false, false_and, Nat.reduceLT, Nat.reduceLeDiff, Nat.reduceAdd, true_or, or_true, if_true, if_false, ↓reduceIte, Nat.reduceEqDiff, false_or, or_false, List.not_mem_nil, List.getElem?_cons_zero, List.getElem?_cons_succ, Option.getD_some] <;> rfl, by omega, by simp, More.refl _⟩
  rintro v w2 ⟨k, h13, hk, hc, hm2⟩
  simp only [hv_apply, up_apply, upO_some, upO_none, init, List.mem_cons, List.mem_range'_1, true_and, and_true, and_false, false_and, Nat.reduceLT, Nat.reduceLeDiff, Nat.reduceAdd, true_or, or_true, if_true, if_false, ↓reduceIte, Nat.reduceEqDiff, false_or, or_false, List.not_mem_nil, List.getElem?_cons_zero, List.getElem?_cons_succ, Option.getD_some] at h13
  have ek : IntKind.i64.wrap ((k : Int) + 1) = ((k + 1 : Nat) : Int) := w64 (by omega) (by omega)
  simp (config := {maxSteps := 1000000}) only [↓zvN, zvU, ↓up_apply, ↓hv_apply, ↓upO_some, ↓upO_none, ↓ev_tmp, ↓ev_const, ↓ev_func, ↓ev_global, init, Nat.reduceEqDiff, Nat.reduceAdd, Nat.reduceMul, Nat.reduceSub, ↓reduceIte, Int.reduceEq, Int.reduceNe, Nat.reduceLeDiff, one, Value.cells, Int.reduceLE, Int.reduceLT, Int.reduceToNat, add_mk, reduceCtorEq, List.mem_range'_1, true_and, and_true, and_false, false_and, Nat.reduceLT, Nat.reduceLeDiff, tyF, h13, hI]
  refine ⟨fun h9 => ?_, fun h9 => ?_⟩
  rotate_left
  · obtain rfl : k = l.length := by omega
    rw [List.take_length, hlen, List.take_length] at hc
    rw [decide_eq_true hc]
    exact ⟨rfl, hm2⟩
  obtain ⟨x, hx⟩ := row_nat l k (by omega)
  obtain ⟨y, hy⟩ := row_nat m k (by omega)
  obtain ⟨a, rfl⟩ := hA.some_of (by rw [row_len l lensL]; omega)
  obtain ⟨b, rfl⟩ := hB.some_of (by rw [row_len m lensM]; omega)
  have hA2 := hA.more hm2
  have hB2 := hB.more hm2
  have rd := hA2.rowEq lensL hx
  have rb := hB2.rowEq lensM hy
  have g0 : (0 : Int) ≤ (k : Int) := by omega
  have hkm : (k : Int) < (m.length : Int) := by omega
  have la := Cs.lt' hA2 (by rw [row_len l lensL]; omega)
  have lb := Cs.lt' hB2 (by rw [row_len m lensM]; omega)
  have hxp := hl x (List.mem_of_getElem? hx)
  have hyp := hm y (List.mem_of_getElem? hy)
  have pne := pref_ne hxp hyp w2
  have ht : l.take (k + 1) = m.take (k + 1) ↔ x = y := by
    rw [List.take_add_one, List.take_add_one, hx, hy, hc]
    simp
  by_cases he : x = y
  · have pne2 : ∀ ox oy K, _ := fun ox oy K => (pne ox oy K).trans (show _ = K (.bool false) by simp only [he, ne_eq, not_true_eq_false, decide_false])
    simp (config := {maxSteps := 1000000}) only [↓zvN, zvU, ↓up_apply, ↓hv_apply, ↓upO_some, ↓upO_none, ↓ev_tmp, ↓ev_const, ↓ev_func, ↓ev_global, init, Nat.reduceEqDiff, Nat.reduceAdd, Nat.reduceMul, Nat.reduceSub, ↓reduceIte, Int.reduceEq, Int.reduceNe, Nat.reduceLeDiff, one, Value.cells, Int.reduceLE, Int.reduceLT, Int.reduceToNat, add_mk, reduceCtorEq, List.mem_range'_1, true_and, and_true, and_false, false_and, Nat.reduceLT, Nat.reduceLeDiff, tyF, h13, hI, g0, h9, hkm]
    refine draw_calm mixed (by kernel_rfl) ?_
    simp (config := {maxSteps := 1000000}) only [↓zvN, zvU, ↓zqD, ↓up_apply, ↓hv_apply, ↓upO_some, ↓upO_none, ↓ev_tmp, ↓ev_const, ↓ev_func, ↓ev_global, init, Nat.reduceEqDiff, Nat.reduceAdd, Nat.reduceMul, Nat.reduceSub, ↓reduceIte, Int.reduceEq, Int.reduceNe, Nat.reduceLeDiff, one, Value.cells, Int.reduceLE, Int.reduceLT, Int.reduceToNat, add_mk, reduceCtorEq, List.mem_range'_1, true_and, and_true, and_false, false_and, Nat.reduceLT, Nat.reduceLeDiff, tyF, h13, g0, h9, hkm, hI, addr_zero, rd, rb, la, lb, pne2, Int.toNat_natCast]
    intro w3 hm3
    try simp (config := {maxSteps := 1000000}) only [↓zvN, zvU, ↓up_apply, ↓hv_apply, ↓upO_some, ↓upO_none, ↓ev_tmp, ↓ev_const, ↓ev_func, ↓ev_global, init, Nat.reduceEqDiff, Nat.reduceAdd, Nat.reduceMul, Nat.reduceSub, ↓reduceIte, Int.reduceEq, Int.reduceNe, Nat.reduceLeDiff, one, Value.cells, Int.reduceLE, Int.reduceLT, Int.reduceToNat, add_mk, reduceCtorEq, List.mem_range'_1, true_and, and_true, and_false, false_and, Nat.reduceLT, Nat.reduceLeDiff, tyF]
    rw [ek]
    refine ⟨⟨?_, k + 1, rfl, by omega, ht.2 he, hm2.trans hm3⟩, by simp only [numOf]; omega⟩
    repeat (first | exact Same.hv _ _ _ | refine Same.up (by simp) ?_)
  · have pne2 : ∀ ox oy K, _ := fun ox oy K => (pne ox oy K).trans (show _ = K (.bool true) by simp only [he, ne_eq, not_false_eq_true, decide_true])
    simp (config := {maxSteps := 1000000}) only [↓zvN, zvU, ↓up_apply, ↓hv_apply, ↓upO_some, ↓upO_none, ↓ev_tmp, ↓ev_const, ↓ev_func, ↓ev_global, init, Nat.reduceEqDiff, Nat.reduceAdd, Nat.reduceMul, Nat.reduceSub, ↓reduceIte, Int.reduceEq, Int.reduceNe, Nat.reduceLeDiff, one, Value.cells, Int.reduceLE, Int.reduceLT, Int.reduceToNat, add_mk, reduceCtorEq, List.mem_range'_1, true_and, and_true, and_false, false_and, Nat.reduceLT, Nat.reduceLeDiff, tyF, h13, hI, g0, h9, hkm]
    refine draw_calm mixed (by kernel_rfl) ?_
    simp (config := {maxSteps := 1000000}) only [↓zvN, zvU, ↓zqD, ↓up_apply, ↓hv_apply, ↓upO_some, ↓upO_none, ↓ev_tmp, ↓ev_const, ↓ev_func, ↓ev_global, init, Nat.reduceEqDiff, Nat.reduceAdd, Nat.reduceMul, Nat.reduceSub, ↓reduceIte, Int.reduceEq, Int.reduceNe, Nat.reduceLeDiff, one, Value.cells, Int.reduceLE, Int.reduceLT, Int.reduceToNat, add_mk, reduceCtorEq, List.mem_range'_1, true_and, and_true, and_false, false_and, Nat.reduceLT, Nat.reduceLeDiff, tyF, h13, g0, h9, hkm, hI, addr_zero, rd, rb, la, lb, pne2, Int.toNat_natCast]
    intro w3 hm3
    try simp (config := {maxSteps := 1000000}) only [↓zvN, zvU, ↓up_apply, ↓hv_apply, ↓upO_some, ↓upO_none, ↓ev_tmp, ↓ev_const, ↓ev_func, ↓ev_global, init, Nat.reduceEqDiff, Nat.reduceAdd, Nat.reduceMul, Nat.reduceSub, ↓reduceIte, Int.reduceEq, Int.reduceNe, Nat.reduceLeDiff, one, Value.cells, Int.reduceLE, Int.reduceLT, Int.reduceToNat, add_mk, reduceCtorEq, List.mem_range'_1, true_and, and_true, and_false, false_and, Nat.reduceLT, Nat.reduceLeDiff, tyF]
    rw [decide_eq_false fun h => he (ht.1 (by rw [h]))]
    exact ⟨rfl, hm2.trans hm3⟩
theorem bslice0 {P : Program} {t e : TypeId} {z : Value} {bytes s : Nat} {w : World} {K : Value → World → Prop} (ht : P.underlying t = some (.slice e)) (hE : ElemT P e z s bytes)
    (hK : K (.slice (some ⟨w.heap.size, 0, none⟩) 0 0) (w.alloc (.cells #[] e))) : runP P (Instr.buildSlice t 0 #[]) w K := by
  obtain ⟨i, hi, hz, hs, hby⟩ := info_parts hE
  refine ⟨_, _, ?_, hK⟩
  have hsz : (Go.sizeOf e).run P w = .ok s w := by simp [Go.sizeOf, typeInfo, hi, hs]
  unfold Instr.buildSlice
  rw [Sem.run_bind, run_un ht]
  simp only [Result.andThen_ok]
  rw [Sem.run_bind, hsz]
  simp only [Result.andThen_ok]
  rw [if_neg (by omega), if_pos (by omega), Sem.run_bind]
  simp only [Sem.run_pure, Result.andThen_ok]
  have h2 := fill_laid (fun i => some (i * s, s)) [] ((Array.range (0 * s)).map ((#[] : Array Value)[· % (#[] : Array Value).size]!)) [] (by simp [laid])
  rw [h2]
  rfl
theorem tw_spec {f : RE → Bool} : ∀ {l : List RE} {k : Nat}, (∀ e ∈ l.take k, f e = true) → (k = l.length ∨ ∃ e, l[k]? = some e ∧ f e = false) → l.takeWhile f = l.take k ∧ l.dropWhile f = l.drop k
  | [], k, _, _ => by simp
  | x :: l, 0, _, h => by
    rcases h with h | ⟨e, h, hf⟩
    · simp at h
    · simp only [List.getElem?_cons_zero, Option.some.injEq] at h
      subst h
      simp [hf]
  | x :: l, k + 1, ha, h => by
    have hx : f x = true := ha x (by simp)
    have ih := tw_spec (f := f) (l := l) (k := k) (fun e he => ha e (by simp [he])) (by
      rcases h with h | ⟨e, h, hf⟩
      · left; simpa using h
      · right; exact ⟨e, by simpa using h, hf⟩)
    simp [hx, ih.1, ih.2]
theorem reE : ElemT Try.prog 46 (.agg (reC (prefZ, 0)).toArray) 9 16 := by unfold ElemT; kernel_rfl
theorem zerRE : zer Try.prog 46 = some (.agg (reC (prefZ, 0)).toArray) := by rw [zer46]; rfl
theorem re_build (p : PrefM) (x : Int) (hp : p.addr.length = 7) (w0 : World) (K : Value → Prop) :
    pureP Try.prog (Instr.build 46 #[(0, .agg p.cells.toArray), (1, .int .i64 x)]) K = K (.agg (reC (p, x)).toArray) := by
  have h8 : p.cells.length = 8 := by simp [PrefM.cells, hp]
  have pl : PlacesOk (placeOf Try.prog 46) 0 0 ([p.cells, [.int .i64 x]]) := by
    simp only [PlacesOk, placeOf, Try.underlying46, List.getElem?_toArray, List.getElem?_cons_zero, List.getElem?_cons_succ, Option.map_some, cells3, cells24, List.length_cons, h8, List.length_nil, Nat.reduceAdd, Nat.zero_add, and_self]
  have b := build_all (P := Try.prog) (T := 46) [.agg p.cells.toArray, .int .i64 x] (out := reC (p, x)) (by kernel_rfl) zerRE (by simpa [Value.cells] using pl)
    (by simp [Value.cells, reC, prefZ, noBytes, h8, PrefM.cells, hp]) (by simp [Value.cells, reC]) w0 K
  simp only [pairs, Nat.zero_add, Nat.reduceAdd] at b
  exact b
theorem Own.stS {w : World} {B s : Nat} {e : TypeId} {n c i : Nat} {a : Addr} {xs : List Value} {v : Value} {K : World → Prop} (h : Own w B e s (some a) n c xs) (hi : i < n * s) (hv : v.oneCell' = true)
    (hK : ∀ w', Wr a.block w w' → B ≤ a.block → Own w' B e s (some a) n c (xs.set i v) → K w') : stCell v (a.add i) w K := by
  obtain ⟨h1, h2⟩ := h
  rcases h2 with ⟨hh, _⟩ | ⟨g, cap, cur, hh, hB, hg, hnc, hm, hs, ht⟩
  · cases hh
  · simp only [Value.slice.injEq, Option.some.injEq] at hh
    obtain ⟨rfl, -, rfl⟩ := hh
    have hb : Blk w g e cur.toList := by unfold Blk; simpa using hg
    rw [add_mk, Nat.zero_add]
    have hle : n * s ≤ c * s := Nat.mul_le_mul_right _ hnc
    refine st_cell hb (by simp only [Array.length_toList]; omega) hv fun w' k1 k2 => hK w' k1 hB ?_
    refine ⟨by simpa using h1, .inr ⟨g, c, (cur.toList.set i v).toArray, rfl, hB, k2, hnc, hm, by simpa using hs, ?_⟩⟩
    rw [List.toList_toArray, ← ht, List.take_set]
theorem map_set {l : List RE} (hn : (keysM l).Nodup) {p : PrefM} {x : Int} {i : Nat} {e : RE} (he : l[i]? = some e) (hp : e.1 = p) : l.map (fun e => if e.1 = p then (p, x) else e) = l.set i (p, x) := by
  have hi : i < l.length := (List.getElem?_eq_some_iff.1 he).1
  apply List.ext_getElem?
  intro j
  rw [List.getElem?_map]
  by_cases hij : i = j
  · subst hij
    rw [List.getElem?_set_self hi, he]
    simp [hp]
  · rw [List.getElem?_set_ne hij]
    cases hj : l[j]? with
    | none => rfl
    | some d =>
      have hjl : j < l.length := (List.getElem?_eq_some_iff.1 hj).1
      rw [Option.map_some, if_neg]
      intro hd
      have h1 : (keysM l)[i]? = some p := by unfold keysM; rw [List.getElem?_map, he]; simp [hp]
      have h2 : (keysM l)[j]? = some p := by unfold keysM; rw [List.getElem?_map, hj]; simp [hd]
      have hil : i < (keysM l).length := by unfold keysM; simpa using hi
      exact hij ((List.getElem?_inj hil hn).1 (h1.trans h2.symm))
theorem re_splice {e : RE} {p : PrefM} {x : Int} (he : e.1.addr.length = 7) (hp : e.1 = p) : splice (reC e) 8 [.int .i64 x] = reC (p, x) := by
  obtain ⟨q, y⟩ := e
  simp only at he hp
  subst hp
  have h8 : q.cells.length = 8 := by simp [PrefM.cells, he]
  unfold reC
  rw [splice_eq _ _ _ (by simp [h8])]
  simp [h8]
def PutRJ (l : List RE) (p : PrefM) (w : World) (v12 : Value) (w' : World) : Prop := ∃ k : Nat, v12 = .int .i64 k ∧ k ≤ l.length ∧ (∀ e ∈ l.take k, decide (plt e.1 p) = true) ∧ More w w'
def putR (l : List RE) (room : Nat) (p : PrefM) (x : Int) : List RE := if p ∈ keysM l ∨ l.length < room then putL l p x else l
theorem slice3_eq {P : Program} {T e : TypeId} {A : Option Addr} {n c k : Nat} (hT : P.underlying T = some (.slice e)) (hc : P.cellsOf e ≠ 0) (h : k ≤ c) (kl km : IntKind) (w0 : World) (K : Value → Prop) :
    sliceP P T (.slice A n c) none (some (.int kl (k : Int))) (some (.int km (k : Int))) K = K (.slice A k k) := by
  unfold sliceP
  rw [hT]
  refine pure_eq (fun w => ?_) w0 K
  unfold Instr.sliceAt Instr.slice Instr.sliceBounds
  have hA : (if k = 0 then A else A.map fun x => x.add (0 * P.cellsOf e)) = A := by
    split
    · rfl
    · cases A <;> simp [Addr.add]
  simp [run_un hT, size_run' hc, bound_run h, bound_run (Nat.le_refl k)]
  cases A <;> simp [Addr.add]
theorem ref_put (w : World) (A : Option Addr) (l : List RE) (c room : Nat) (p : PrefM) (x : Int) (hp : p.addr.length = 7) (hA : Cs w A (l.flatMap reC)) (hO : ReOk l) (hs : SortedM l) (hlc : l.length ≤ c) (hl : l.length ≤ 1000000) (hr : room ≤ 1000000) :
    Ret Try.prog 20 #[.slice A l.length c, .int .i64 room, .agg p.cells.toArray, .int .i64 x] w fun v w' => ∃ A' c', v = .tuple #[.slice A' (putR l room p x).length c', .bool (decide (p ∈ keysM l ∨ l.length < room))] ∧ (putR l room p x).length ≤ c' ∧ Cs w' A' ((putR l room p x).flatMap reC) ∧ (A' = A ∨ ∀ a, A' = some a → w.heap.size ≤ a.block) ∧ More w w' := by
  refine ret_of Try.func20 rfl (by kernel_rfl) (Nat.le_of_ble_eq_true (by kernel_rfl)) ?_
  have hm1 := more_alloc w (.cells p.cells.toArray 24)
  have hb1 := Blk.new w 24 p.cells.toArray
  simp (config := {maxSteps := 1000000}) only [↓zvN, zvU, ↓up_apply, ↓hv_apply, ↓upO_some, ↓upO_none, ↓ev_tmp, ↓ev_const, ↓ev_func, ↓ev_global, init, Nat.reduceEqDiff, Nat.reduceAdd, Nat.reduceMul, Nat.reduceSub, ↓reduceIte, Int.reduceEq, Int.reduceNe, Nat.reduceLeDiff, one, Value.cells, Int.reduceLE, Int.reduceLT, Int.reduceToNat, add_mk, reduceCtorEq, List.mem_range'_1, true_and, and_true, and_false, false_and, Nat.reduceLT, Nat.reduceLeDiff, tyF]
  obtain ⟨w1, hw1⟩ : ∃ w1, w.alloc (.cells p.cells.toArray 24) = w1 := ⟨_, rfl⟩
  rw [hw1] at hm1 hb1 ⊢
  clear hw1
  rw [List.toList_toArray] at hb1
  obtain ⟨pb, hpb⟩ : ∃ q, w.heap.size = q := ⟨_, rfl⟩
  rw [hpb] at hb1 ⊢
  have hpl : p.cells.length = 8 := by simp [PrefM.cells, hp]
  refine bslice0 Try.underlying41 reE ?_
  have hm2 := more_alloc w1 (.cells #[] 46)
  have ho2 := Own.made w1 46 9 #[] 0 rfl (by simp [maxLen]) (Nat.le_refl _)
  simp (config := {maxSteps := 1000000}) only [↓zvN, zvU, ↓up_apply, ↓hv_apply, ↓upO_some, ↓upO_none, ↓ev_tmp, ↓ev_const, ↓ev_func, ↓ev_global, init, Nat.reduceEqDiff, Nat.reduceAdd, Nat.reduceMul, Nat.reduceSub, ↓reduceIte, Int.reduceEq, Int.reduceNe, Nat.reduceLeDiff, one, Value.cells, Int.reduceLE, Int.reduceLT, Int.reduceToNat, add_mk, reduceCtorEq, List.mem_range'_1, true_and, and_true, and_false, false_and, Nat.reduceLT, Nat.reduceLeDiff, tyF]
  obtain ⟨w2, hw2⟩ : ∃ w2, w1.alloc (.cells #[] 46) = w2 := ⟨_, rfl⟩
  rw [hw2] at hm2 ho2 ⊢
  clear hw2
  have hm12 := hm1.trans hm2
  refine app_mod (m := l.length) (news := l.flatMap reC) Try.underlying41 reE rfl (by omega) ho2 (hA.more hm12) (row_len l hO.lens) (fun u hu => by obtain ⟨e, _, he⟩ := List.mem_flatMap.1 hu; exact reC_one e u he) (by simp only [maxLen]; omega) (by omega) hm2.size ?_
  intro A3 c3 w3 ho3 hmd3 hat3
  have hm13 : More w w3 := Mod.more hm12 hmd3 (fun k hk h => by have h' := (atB_some _ k).1 h; have := hm1.size; simp only at h'; omega)
  have hA3 := hA.more hm13
  have hb3 := hb1.more (show More w1 w3 from Mod.more hm2 hmd3 (fun k hk h => by have h' := (atB_some _ k).1 h; simp only at h'; omega))
  have v3 := hb3.all_eq 8 hpl
  simp only [Nat.zero_add, List.nil_append] at ho3 ⊢
  simp (config := {maxSteps := 1000000}) only [↓zvN, zvU, ↓up_apply, ↓hv_apply, ↓upO_some, ↓upO_none, ↓ev_tmp, ↓ev_const, ↓ev_func, ↓ev_global, init, Nat.reduceEqDiff, Nat.reduceAdd, Nat.reduceMul, Nat.reduceSub, ↓reduceIte, Int.reduceEq, Int.reduceNe, Nat.reduceLeDiff, one, Value.cells, Int.reduceLE, Int.reduceLT, Int.reduceToNat, add_mk, reduceCtorEq, List.mem_range'_1, true_and, and_true, and_false, false_and, Nat.reduceLT, Nat.reduceLeDiff, tyF, v3]
  refine call_ok Try.call19 (ref_find w3 A l c p hp hA3 hO hl) ?_
  rintro _ w4 ⟨rfl, hm4⟩
  have hm14 := hm13.trans hm4
  have ho4 := ho3.more hm4
  by_cases hk : p ∈ keysM l
  · obtain ⟨i, hi, hil, e, he, hep⟩ := idx_get hk
    have g0 : (0 : Int) ≤ (i : Int) := by omega
    have g1 : (i : Int) < (l.length : Int) := by omega
    have hput : putR l room p x = l.map (fun e => if e.1 = p then (p, x) else e) := by unfold putR putL; rw [if_pos (.inl hk), if_pos hk]
    have hyes : decide (p ∈ keysM l ∨ l.length < room) = true := decide_eq_true (.inl hk)
    rw [hput, hyes]
    simp (config := {maxSteps := 1000000}) only [↓zvN, zvU, ↓up_apply, ↓hv_apply, ↓upO_some, ↓upO_none, ↓ev_tmp, ↓ev_const, ↓ev_func, ↓ev_global, init, Nat.reduceEqDiff, Nat.reduceAdd, Nat.reduceMul, Nat.reduceSub, ↓reduceIte, Int.reduceEq, Int.reduceNe, Nat.reduceLeDiff, one, Value.cells, Int.reduceLE, Int.reduceLT, Int.reduceToNat, add_mk, reduceCtorEq, List.mem_range'_1, true_and, and_true, and_false, false_and, Nat.reduceLT, Nat.reduceLeDiff, tyF, hi, g0, g1, hil, Int.toNat_natCast]
    rcases ho4.blk with ⟨hA3n, hn0⟩ | ⟨g, hA3s, hgB, hgl, cur, hgb⟩
    · omega
    · subst hA3s
      refine ⟨_, rfl, ?_⟩
      rw [add_add]
      have hf := row_fits l hO.lens hil
      rw [row_len l hO.lens] at hf
      refine Own.stS ho4 (by omega) rfl fun w5 j1 _ j2 => ?_
      try rw [s2_undef]
      simp (config := {maxSteps := 1000000}) only [↓zvN, zvU, ↓up_apply, ↓hv_apply, ↓upO_some, ↓upO_none, ↓ev_tmp, ↓ev_const, ↓ev_func, ↓ev_global, init, Nat.reduceEqDiff, Nat.reduceAdd, Nat.reduceMul, Nat.reduceSub, ↓reduceIte, Int.reduceEq, Int.reduceNe, Nat.reduceLeDiff, one, Value.cells, Int.reduceLE, Int.reduceLT, Int.reduceToNat, add_mk, reduceCtorEq, List.mem_range'_1, true_and, and_true, and_false, false_and, Nat.reduceLT, Nat.reduceLeDiff, tyF]
      have hx := row_part (vs := [.int .i64 x]) (m' := (p, x)) hO.lens he (by simp) (re_splice (hO e (List.mem_of_getElem? he)) hep)
      rw [show (l.flatMap reC).set (i * 9 + 8) (.int .i64 x) = splice (l.flatMap reC) (i * 9 + 8) [.int .i64 x] from rfl, hx, ← map_set hs.nodup he hep] at j2
      have hz := hm1.size
      refine ⟨_, c3, by rw [List.length_map]; rfl, by rw [List.length_map]; exact j2.le, j2.cs, .inr fun a ha => ?_, ?_⟩
      · cases ha
        show pb ≤ g
        omega
      exact j1.below hm14 (by simp only; omega)
  · have hni : ¬ 0 ≤ idxL p l 0 := fun h => hk ((idx_mem l 0).1 h)
    by_cases hroom : l.length < room
    rotate_left
    · have hput : putR l room p x = l := by unfold putR; rw [if_neg (by intro h; rcases h with h | h; exact hk h; exact hroom h)]
      have hno : decide (p ∈ keysM l ∨ l.length < room) = false := decide_eq_false (by intro h; rcases h with h | h; exact hk h; exact hroom h)
      have hI : (room : Int) ≤ (l.length : Int) := by omega
      rw [hput, hno]
      simp (config := {maxSteps := 1000000}) only [↓zvN, zvU, ↓up_apply, ↓hv_apply, ↓upO_some, ↓upO_none, ↓ev_tmp, ↓ev_const, ↓ev_func, ↓ev_global, init, Nat.reduceEqDiff, Nat.reduceAdd, Nat.reduceMul, Nat.reduceSub, ↓reduceIte, Int.reduceEq, Int.reduceNe, Nat.reduceLeDiff, one, Value.cells, Int.reduceLE, Int.reduceLT, Int.reduceToNat, add_mk, reduceCtorEq, List.mem_range'_1, true_and, and_true, and_false, false_and, Nat.reduceLT, Nat.reduceLeDiff, tyF, hni, hI]
      exact ⟨A, c, rfl, hlc, hA3.more hm4, .inl rfl, hm14⟩
    have hput : putR l room p x = l.takeWhile (fun e => plt e.1 p) ++ (p, x) :: l.dropWhile (fun e => plt e.1 p) := by unfold putR putL; rw [if_pos (.inr hroom), if_neg hk]
    have hyes : decide (p ∈ keysM l ∨ l.length < room) = true := decide_eq_true (.inr hroom)
    have hI : ¬ (room : Int) ≤ (l.length : Int) := by omega
    rw [hput, hyes]
    simp (config := {maxSteps := 1000000}) only [↓zvN, zvU, ↓up_apply, ↓hv_apply, ↓upO_some, ↓upO_none, ↓ev_tmp, ↓ev_const, ↓ev_func, ↓ev_global, init, Nat.reduceEqDiff, Nat.reduceAdd, Nat.reduceMul, Nat.reduceSub, ↓reduceIte, Int.reduceEq, Int.reduceNe, Nat.reduceLeDiff, one, Value.cells, Int.reduceLE, Int.reduceLT, Int.reduceToNat, add_mk, reduceCtorEq, List.mem_range'_1, true_and, and_true, and_false, false_and, Nat.reduceLT, Nat.reduceLeDiff, tyF, hni, hI]
    clear hI
    refine loop_p (12 :: List.range' 32 15) (fun e w' => PutRJ l p w4 (e 12) w') (fun e _ => l.length - (numOf (e 12)).toNat) ?_ ?_
    · exact ⟨0, by simp only [hv_apply, up_apply, upO_some, upO_none, init, List.mem_cons, List.mem_range'_1, true_and, and_true, and_false, false_and, Nat.reduceLT, Nat.reduceLeDiff, Nat.reduceAdd, true_or, or_true, if_true, if_false, ↓reduceIte, Nat.reduceEqDiff, false_or, or_false, List.not_mem_nil, List.getElem?_cons_zero, List.getElem?_cons_succ, Option.getD_some] <;> rfl, by omega, by simp, More.refl _⟩
    rintro v w5 ⟨k, h12, hkl, hall, hm5⟩
    simp only [hv_apply, up_apply, upO_some, upO_none, init, List.mem_cons, List.mem_range'_1, true_and, and_true, and_false, false_and, Nat.reduceLT, Nat.reduceLeDiff, Nat.reduceAdd, true_or, or_true, if_true, if_false, ↓reduceIte, Nat.reduceEqDiff, false_or, or_false, List.not_mem_nil, List.getElem?_cons_zero, List.getElem?_cons_succ, Option.getD_some] at h12
    have ek : IntKind.i64.wrap ((k : Int) + 1) = ((k + 1 : Nat) : Int) := w64 (by omega) (by omega)
    have v5 := (hb3.more (hm4.trans hm5)).all_eq 8 hpl
    have l5 := (hb3.more (hm4.trans hm5)).lt
    have hA5 := (hA3.more hm4).more hm5
    have hm15 := hm14.trans hm5
    by_cases hkn : k < l.length
    rotate_left
    · have hkI : ¬ (k : Int) < (l.length : Int) := by omega
      simp (config := {maxSteps := 1000000}) only [↓zvN, zvU, ↓up_apply, ↓hv_apply, ↓upO_some, ↓upO_none, ↓ev_tmp, ↓ev_const, ↓ev_func, ↓ev_global, init, Nat.reduceEqDiff, Nat.reduceAdd, Nat.reduceMul, Nat.reduceSub, ↓reduceIte, Int.reduceEq, Int.reduceNe, Nat.reduceLeDiff, one, Value.cells, Int.reduceLE, Int.reduceLT, Int.reduceToNat, add_mk, reduceCtorEq, List.mem_range'_1, true_and, and_true, and_false, false_and, Nat.reduceLT, Nat.reduceLeDiff, tyF, h12]
      refine draw_calm mixed (by kernel_rfl) ?_
      simp (config := {maxSteps := 1000000}) only [↓zvN, zvU, ↓zqD, ↓up_apply, ↓hv_apply, ↓upO_some, ↓upO_none, ↓ev_tmp, ↓ev_const, ↓ev_func, ↓ev_global, init, Nat.reduceEqDiff, Nat.reduceAdd, Nat.reduceMul, Nat.reduceSub, ↓reduceIte, Int.reduceEq, Int.reduceNe, Nat.reduceLeDiff, one, Value.cells, Int.reduceLE, Int.reduceLT, Int.reduceToNat, add_mk, reduceCtorEq, List.mem_range'_1, true_and, and_true, and_false, false_and, Nat.reduceLT, Nat.reduceLeDiff, tyF, h12, hkI]
      intro w6 hm6
      have hstop : k = l.length ∨ ∃ e, l[k]? = some e ∧ decide (plt e.1 p) = false := .inl (by omega)
      obtain ⟨htw, hdw⟩ := tw_spec (f := fun e => decide (plt e.1 p)) hall hstop
      rw [htw, hdw]
      have hm16 := hm15.trans hm6
      have ho6 := (ho4.more hm5).more hm6
      have hA6 := hA5.more hm6
      have v6 := (hb3.more ((hm4.trans hm5).trans hm6)).all_eq 8 hpl
      have l6 := (hb3.more ((hm4.trans hm5).trans hm6)).lt
      have hkc : k ≤ c3 := Nat.le_trans hkl ho4.le
      have hkc2 : (k : Int) ≤ (c3 : Int) := by omega
      have hkl2 : (k : Int) ≤ (l.length : Int) := by omega
      have g0' : (0 : Int) ≤ (k : Int) := by omega
      have hlc2 : (l.length : Int) ≤ (c : Int) := by omega
      have bd := re_build p x hp w6
      have s3 := fun kl km K => slice3_eq (A := A3) (n := l.length) (K := K) Try.underlying41 (by rw [cells46]; omega) hkc kl km w6
      refine draw_line w6.heap.size More [0, 0, 0, 0, 0, 0, 0, 1, 1, 0, 0, 0, 1, 0, 0] [[], [], [], [0, 1, 2], [], [], [4, 5], [4, 5, 6], [0, 1, 2, 3, 4, 5, 6, 7], [], [], [9, 10], [0, 1, 2, 3, 4, 5, 6, 7, 8, 9, 10, 11], [0, 1, 2, 3, 4, 5, 6, 7, 8, 9, 10, 11, 12], [0, 1, 2, 3, 4, 5, 6, 7, 8, 9, 10, 11, 12, 13]] mixed (by kernel_rfl) (by kernel_rfl) (More.refl _) (fun w' h => h) (fun w' h => h) ?_
      intro w7 hm7
      simp (config := {maxSteps := 1000000}) only [↓zvN, zvU, ↓zqD, ↓sk_nil, ↓sk_cons, ↓sk_guard, ↓sk_zero, ↓sk_one, ↓sk_two, ↓up_apply, ↓hv_apply, ↓upO_some, ↓upO_none, ↓ev_tmp, ↓ev_const, ↓ev_func, ↓ev_global, init, Nat.reduceEqDiff, Nat.reduceAdd, Nat.reduceMul, Nat.reduceSub, ↓reduceIte, Int.reduceEq, Int.reduceNe, Nat.reduceLeDiff, one, Value.cells, Int.reduceLE, Int.reduceLT, Int.reduceToNat, add_mk, reduceCtorEq, List.mem_range'_1, true_and, and_true, and_false, false_and, Nat.reduceLT, Nat.reduceLeDiff, tyF, h12, v6, l6, hkc, hkc2, hkl2, g0', hkl, hlc, hlc2, bd, s3, Int.toNat_natCast]
      refine bslice1 Try.underlying41 reE (by omega) (by omega) (reC_len (e := (p, x)) hp) ?_
      have hm8 := more_alloc w7 (.cells (reC (p, x)).toArray 46)
      have hb8 := Blk.new w7 46 (reC (p, x)).toArray
      obtain ⟨w8, hw8⟩ : ∃ w8, w7.alloc (.cells (reC (p, x)).toArray 46) = w8 := ⟨_, rfl⟩
      rw [hw8] at hm8 hb8 ⊢
      clear hw8
      rw [List.toList_toArray] at hb8
      have hm68 := hm7.trans hm8
      simp (config := {maxSteps := 1000000}) only [↓zvN, zvU, ↓zqD, ↓sk_nil, ↓sk_cons, ↓sk_guard, ↓sk_zero, ↓sk_one, ↓sk_two, ↓up_apply, ↓hv_apply, ↓upO_some, ↓upO_none, ↓ev_tmp, ↓ev_const, ↓ev_func, ↓ev_global, init, Nat.reduceEqDiff, Nat.reduceAdd, Nat.reduceMul, Nat.reduceSub, ↓reduceIte, Int.reduceEq, Int.reduceNe, Nat.reduceLeDiff, one, Value.cells, Int.reduceLE, Int.reduceLT, Int.reduceToNat, add_mk, reduceCtorEq, List.mem_range'_1, true_and, and_true, and_false, false_and, Nat.reduceLT, Nat.reduceLeDiff, tyF, h12, s3]
      refine ⟨hm68, ?_⟩
      have hxs : Cs w8 A3 ((l.take k).flatMap reC) := (ho6.cs.more hm68).rowTake k
      refine app_cut (m := 1) (A2 := some ⟨w7.heap.size, 0, none⟩) (xs := (l.take k).flatMap reC) (news := reC (p, x)) Try.underlying41 reE rfl (by omega) ?_ hxs (by rw [row_len _ (fun m hm => hO.lens m (List.mem_of_mem_take hm)), List.length_take, Nat.min_eq_left hkl]) hb8.cs (by rw [reC_len (e := (p, x)) hp]) (by omega) (reC_one _) (by simp only [maxLen]; omega) (by omega) ?_
      · intro hA
        rcases ho6.blk with ⟨_, hn0⟩ | ⟨g, hg, _⟩
        · omega
        · rw [hA] at hg; cases hg
      intro A9 c9 w9 ho9 hm9
      have hm69 := hm68.trans hm9
      simp (config := {maxSteps := 1000000}) only [↓zvN, zvU, ↓zqD, ↓sk_nil, ↓sk_cons, ↓sk_guard, ↓sk_zero, ↓sk_one, ↓sk_two, ↓up_apply, ↓hv_apply, ↓upO_some, ↓upO_none, ↓ev_tmp, ↓ev_const, ↓ev_func, ↓ev_global, init, Nat.reduceEqDiff, Nat.reduceAdd, Nat.reduceMul, Nat.reduceSub, ↓reduceIte, Int.reduceEq, Int.reduceNe, Nat.reduceLeDiff, one, Value.cells, Int.reduceLE, Int.reduceLT, Int.reduceToNat, add_mk, reduceCtorEq, List.mem_range'_1, true_and, and_true, and_false, false_and, Nat.reduceLT, Nat.reduceLeDiff, tyF, h12, hkl, hkl2, g0', hlc, hlc2, Int.toNat_natCast]
      refine ⟨hm69, ?_⟩
      have hA9 := (hA6.more hm69).rowDrop hO.lens hlc k
      have hsz9 := hm9.size
      refine app_mod (m := l.length - k) (news := (l.drop k).flatMap reC) Try.underlying41 reE rfl (by omega) ho9 hA9 (by rw [row_len _ (fun m hm => hO.lens m (List.mem_of_mem_drop hm)), List.length_drop]) (fun u hu => by obtain ⟨e, _, he⟩ := List.mem_flatMap.1 hu; exact reC_one e u he) (by simp only [maxLen]; omega) (by omega) hsz9 ?_
      intro A10 c10 w10 ho10 hmd10 _
      have hm10 : More w6 w10 := Mod.more hm69 hmd10 (fun j hj h => by have := ho9.atB_ge h; have := hm68.size; omega)
      simp (config := {maxSteps := 1000000}) only [↓zvN, zvU, ↓zqD, ↓sk_nil, ↓sk_cons, ↓sk_guard, ↓sk_zero, ↓sk_one, ↓sk_two, ↓up_apply, ↓hv_apply, ↓upO_some, ↓upO_none, ↓ev_tmp, ↓ev_const, ↓ev_func, ↓ev_global, init, Nat.reduceEqDiff, Nat.reduceAdd, Nat.reduceMul, Nat.reduceSub, ↓reduceIte, Int.reduceEq, Int.reduceNe, Nat.reduceLeDiff, one, Value.cells, Int.reduceLE, Int.reduceLT, Int.reduceToNat, add_mk, reduceCtorEq, List.mem_range'_1, true_and, and_true, and_false, false_and, Nat.reduceLT, Nat.reduceLeDiff, tyF, h12]
      have hln : (l.take k ++ (p, x) :: l.drop k).length = k + 1 + (l.length - k) := by rw [List.length_append, List.length_cons, List.length_take, List.length_drop]; omega
      have hrow : (l.take k ++ (p, x) :: l.drop k).flatMap reC = (l.take k).flatMap reC ++ reC (p, x) ++ (l.drop k).flatMap reC := by simp
      refine ⟨hm10, A10, c10, by rw [hln]; rfl, by rw [hln]; exact ho10.le, by rw [hrow]; exact ho10.cs, .inr fun a ha => ?_, hm16.trans hm10⟩
      have := (ho10.atB_ge ⟨a, ha, rfl⟩).1
      have := hm16.size
      have := hm68.size
      omega
    have hkI : (k : Int) < (l.length : Int) := by omega
    obtain ⟨e, he⟩ := row_nat l k hkn
    have heo := hO e (List.mem_of_getElem? he)
    obtain ⟨a, rfl⟩ := hA.some_of (by rw [row_len l hO.lens]; omega)
    have la := Cs.lt' hA5 (by rw [row_len l hO.lens]; omega)
    have g0 : (0 : Int) ≤ (k : Int) := by omega
    have rd : ∀ K : Value → Prop, ldRow 8 (a.add (k * 9)) w5 K = K (.agg e.1.cells.toArray) := fun K => by
      have h8 : e.1.cells.length = 8 := by simp [PrefM.cells, heo]
      refine ldRow_eq h8 (fun j hj => ?_) K
      rw [hA5.elemA hO.lens he (by omega), reC, List.getElem?_append_left (by omega)]
    simp (config := {maxSteps := 1000000}) only [↓zvN, zvU, ↓up_apply, ↓hv_apply, ↓upO_some, ↓upO_none, ↓ev_tmp, ↓ev_const, ↓ev_func, ↓ev_global, init, Nat.reduceEqDiff, Nat.reduceAdd, Nat.reduceMul, Nat.reduceSub, ↓reduceIte, Int.reduceEq, Int.reduceNe, Nat.reduceLeDiff, one, Value.cells, Int.reduceLE, Int.reduceLT, Int.reduceToNat, add_mk, reduceCtorEq, List.mem_range'_1, true_and, and_true, and_false, false_and, Nat.reduceLT, Nat.reduceLeDiff, tyF, h12]
    refine draw_seen 11 [[], [], [1], [0, 1, 2], [0, 1, 2, 3], [0, 1, 2, 3, 4], [0, 1, 2, 3, 4], [0, 1, 2, 3, 4, 5, 6], [0, 1, 2, 3, 4, 5, 6, 7], [0, 1, 2, 3, 4, 5, 6, 7, 8], [0, 1, 2, 3, 4], [0, 1, 2, 3, 4, 5, 6, 7, 8, 9, 10], [0, 1, 2, 3, 4, 5, 6, 7, 8, 9, 10, 11]] (RV.look [(11, RV.IsV (.bool (decide (plt e.1 p))))]) mixed (by kernel_rfl) (by kernel_rfl) (look_keeps _ (by simp [keepsV])) ?_
    simp (config := {maxSteps := 1000000}) only [↓zvN, zvU, ↓zqD, ↓up_apply, ↓hv_apply, ↓upO_some, ↓upO_none, ↓ev_tmp, ↓ev_const, ↓ev_func, ↓ev_global, init, Nat.reduceEqDiff, Nat.reduceAdd, Nat.reduceMul, Nat.reduceSub, ↓reduceIte, Int.reduceEq, Int.reduceNe, Nat.reduceLeDiff, one, Value.cells, Int.reduceLE, Int.reduceLT, Int.reduceToNat, add_mk, reduceCtorEq, List.mem_range'_1, true_and, and_true, and_false, false_and, Nat.reduceLT, Nat.reduceLeDiff, tyF, h12, hkI, g0, addr_zero, rd, la, v5, l5, Int.toNat_natCast]
    intro w6' hm6'
    refine call_ok Try.call12 (ref_less w6' e.1 p heo hp) ?_
    rintro _ w6 ⟨rfl, hm6⟩
    replace hm6 := hm6'.trans hm6
    by_cases hpe : plt e.1 p
    · have hd : decide (plt e.1 p) = true := decide_eq_true hpe
      simp (config := {maxSteps := 1000000}) only [↓zvN, zvU, ↓up_apply, ↓hv_apply, ↓upO_some, ↓upO_none, ↓ev_tmp, ↓ev_const, ↓ev_func, ↓ev_global, init, Nat.reduceEqDiff, Nat.reduceAdd, Nat.reduceMul, Nat.reduceSub, ↓reduceIte, Int.reduceEq, Int.reduceNe, Nat.reduceLeDiff, one, Value.cells, Int.reduceLE, Int.reduceLT, Int.reduceToNat, add_mk, reduceCtorEq, List.mem_range'_1, true_and, and_true, and_false, false_and, Nat.reduceLT, Nat.reduceLeDiff, tyF, hd, p_nil, h12, ek]
      refine ⟨⟨?_, k + 1, rfl, by omega, ?_, hm5.trans hm6⟩, by simp only [numOf]; omega⟩
      · repeat (first | exact Same.hv _ _ _ | refine Same.up (by simp) ?_)
      · intro d hd'
        rw [List.take_add_one, he, List.mem_append] at hd'
        rcases hd' with h | h
        · exact hall d h
        · simp at h; subst h; exact hd
    · have hd : decide (plt e.1 p) = false := decide_eq_false hpe
      simp (config := {maxSteps := 1000000}) only [↓zvN, zvU, ↓up_apply, ↓hv_apply, ↓upO_some, ↓upO_none, ↓ev_tmp, ↓ev_const, ↓ev_func, ↓ev_global, init, Nat.reduceEqDiff, Nat.reduceAdd, Nat.reduceMul, Nat.reduceSub, ↓reduceIte, Int.reduceEq, Int.reduceNe, Nat.reduceLeDiff, one, Value.cells, Int.reduceLE, Int.reduceLT, Int.reduceToNat, add_mk, reduceCtorEq, List.mem_range'_1, true_and, and_true, and_false, false_and, Nat.reduceLT, Nat.reduceLeDiff, tyF, hd, p_nil, h12, ek]
      have hstop : k = l.length ∨ ∃ e, l[k]? = some e ∧ decide (plt e.1 p) = false := .inr ⟨e, he, hd⟩
      obtain ⟨htw, hdw⟩ := tw_spec (f := fun e => decide (plt e.1 p)) hall hstop
      rw [htw, hdw]
      have hm16 := hm15.trans hm6
      have ho6 := (ho4.more hm5).more hm6
      have hA6 := hA5.more hm6
      have v6 := (hb3.more ((hm4.trans hm5).trans hm6)).all_eq 8 hpl
      have l6 := (hb3.more ((hm4.trans hm5).trans hm6)).lt
      have hkc : k ≤ c3 := Nat.le_trans hkl ho4.le
      have hkc2 : (k : Int) ≤ (c3 : Int) := by omega
      have hkl2 : (k : Int) ≤ (l.length : Int) := by omega
      have g0' : (0 : Int) ≤ (k : Int) := by omega
      have hlc2 : (l.length : Int) ≤ (c : Int) := by omega
      have bd := re_build p x hp w6
      have s3 := fun kl km K => slice3_eq (A := A3) (n := l.length) (K := K) Try.underlying41 (by rw [cells46]; omega) hkc kl km w6
      refine draw_line w6.heap.size More [0, 0, 0, 0, 0, 0, 0, 1, 1, 0, 0, 0, 1, 0, 0] [[], [], [], [0, 1, 2], [], [], [4, 5], [4, 5, 6], [0, 1, 2, 3, 4, 5, 6, 7], [], [], [9, 10], [0, 1, 2, 3, 4, 5, 6, 7, 8, 9, 10, 11], [0, 1, 2, 3, 4, 5, 6, 7, 8, 9, 10, 11, 12], [0, 1, 2, 3, 4, 5, 6, 7, 8, 9, 10, 11, 12, 13]] mixed (by kernel_rfl) (by kernel_rfl) (More.refl _) (fun w' h => h) (fun w' h => h) ?_
      intro w7 hm7
      simp (config := {maxSteps := 1000000}) only [↓zvN, zvU, ↓zqD, ↓sk_nil, ↓sk_cons, ↓sk_guard, ↓sk_zero, ↓sk_one, ↓sk_two, ↓up_apply, ↓hv_apply, ↓upO_some, ↓upO_none, ↓ev_tmp, ↓ev_const, ↓ev_func, ↓ev_global, init, Nat.reduceEqDiff, Nat.reduceAdd, Nat.reduceMul, Nat.reduceSub, ↓reduceIte, Int.reduceEq, Int.reduceNe, Nat.reduceLeDiff, one, Value.cells, Int.reduceLE, Int.reduceLT, Int.reduceToNat, add_mk, reduceCtorEq, List.mem_range'_1, true_and, and_true, and_false, false_and, Nat.reduceLT, Nat.reduceLeDiff, tyF, h12, v6, l6, hkc, hkc2, hkl2, g0', hkl, hlc, hlc2, bd, s3, Int.toNat_natCast]
      refine bslice1 Try.underlying41 reE (by omega) (by omega) (reC_len (e := (p, x)) hp) ?_
      have hm8 := more_alloc w7 (.cells (reC (p, x)).toArray 46)
      have hb8 := Blk.new w7 46 (reC (p, x)).toArray
      obtain ⟨w8, hw8⟩ : ∃ w8, w7.alloc (.cells (reC (p, x)).toArray 46) = w8 := ⟨_, rfl⟩
      rw [hw8] at hm8 hb8 ⊢
      clear hw8
      rw [List.toList_toArray] at hb8
      have hm68 := hm7.trans hm8
      simp (config := {maxSteps := 1000000}) only [↓zvN, zvU, ↓zqD, ↓sk_nil, ↓sk_cons, ↓sk_guard, ↓sk_zero, ↓sk_one, ↓sk_two, ↓up_apply, ↓hv_apply, ↓upO_some, ↓upO_none, ↓ev_tmp, ↓ev_const, ↓ev_func, ↓ev_global, init, Nat.reduceEqDiff, Nat.reduceAdd, Nat.reduceMul, Nat.reduceSub, ↓reduceIte, Int.reduceEq, Int.reduceNe, Nat.reduceLeDiff, one, Value.cells, Int.reduceLE, Int.reduceLT, Int.reduceToNat, add_mk, reduceCtorEq, List.mem_range'_1, true_and, and_true, and_false, false_and, Nat.reduceLT, Nat.reduceLeDiff, tyF, h12, s3]
      refine ⟨hm68, ?_⟩
      have hxs : Cs w8 A3 ((l.take k).flatMap reC) := (ho6.cs.more hm68).rowTake k
      refine app_cut (m := 1) (A2 := some ⟨w7.heap.size, 0, none⟩) (xs := (l.take k).flatMap reC) (news := reC (p, x)) Try.underlying41 reE rfl (by omega) ?_ hxs (by rw [row_len _ (fun m hm => hO.lens m (List.mem_of_mem_take hm)), List.length_take, Nat.min_eq_left hkl]) hb8.cs (by rw [reC_len (e := (p, x)) hp]) (by omega) (reC_one _) (by simp only [maxLen]; omega) (by omega) ?_
      · intro hA
        rcases ho6.blk with ⟨_, hn0⟩ | ⟨g, hg, _⟩
        · omega
        · rw [hA] at hg; cases hg
      intro A9 c9 w9 ho9 hm9
      have hm69 := hm68.trans hm9
      simp (config := {maxSteps := 1000000}) only [↓zvN, zvU, ↓zqD, ↓sk_nil, ↓sk_cons, ↓sk_guard, ↓sk_zero, ↓sk_one, ↓sk_two, ↓up_apply, ↓hv_apply, ↓upO_some, ↓upO_none, ↓ev_tmp, ↓ev_const, ↓ev_func, ↓ev_global, init, Nat.reduceEqDiff, Nat.reduceAdd, Nat.reduceMul, Nat.reduceSub, ↓reduceIte, Int.reduceEq, Int.reduceNe, Nat.reduceLeDiff, one, Value.cells, Int.reduceLE, Int.reduceLT, Int.reduceToNat, add_mk, reduceCtorEq, List.mem_range'_1, true_and, and_true, and_false, false_and, Nat.reduceLT, Nat.reduceLeDiff, tyF, h12, hkl, hkl2, g0', hlc, hlc2, Int.toNat_natCast]
      refine ⟨hm69, ?_⟩
      have hA9 := (hA6.more hm69).rowDrop hO.lens hlc k
      have hsz9 := hm9.size
      refine app_mod (m := l.length - k) (news := (l.drop k).flatMap reC) Try.underlying41 reE rfl (by omega) ho9 hA9 (by rw [row_len _ (fun m hm => hO.lens m (List.mem_of_mem_drop hm)), List.length_drop]) (fun u hu => by obtain ⟨e, _, he⟩ := List.mem_flatMap.1 hu; exact reC_one e u he) (by simp only [maxLen]; omega) (by omega) hsz9 ?_
      intro A10 c10 w10 ho10 hmd10 _
      have hm10 : More w6 w10 := Mod.more hm69 hmd10 (fun j hj h => by have := ho9.atB_ge h; have := hm68.size; omega)
      simp (config := {maxSteps := 1000000}) only [↓zvN, zvU, ↓zqD, ↓sk_nil, ↓sk_cons, ↓sk_guard, ↓sk_zero, ↓sk_one, ↓sk_two, ↓up_apply, ↓hv_apply, ↓upO_some, ↓upO_none, ↓ev_tmp, ↓ev_const, ↓ev_func, ↓ev_global, init, Nat.reduceEqDiff, Nat.reduceAdd, Nat.reduceMul, Nat.reduceSub, ↓reduceIte, Int.reduceEq, Int.reduceNe, Nat.reduceLeDiff, one, Value.cells, Int.reduceLE, Int.reduceLT, Int.reduceToNat, add_mk, reduceCtorEq, List.mem_range'_1, true_and, and_true, and_false, false_and, Nat.reduceLT, Nat.reduceLeDiff, tyF, h12]
      have hln : (l.take k ++ (p, x) :: l.drop k).length = k + 1 + (l.length - k) := by rw [List.length_append, List.length_cons, List.length_take, List.length_drop]; omega
      have hrow : (l.take k ++ (p, x) :: l.drop k).flatMap reC = (l.take k).flatMap reC ++ reC (p, x) ++ (l.drop k).flatMap reC := by simp
      refine ⟨hm10, A10, c10, by rw [hln]; rfl, by rw [hln]; exact ho10.le, by rw [hrow]; exact ho10.cs, .inr fun a ha => ?_, hm16.trans hm10⟩
      have := (ho10.atB_ge ⟨a, ha, rfl⟩).1
      have := hm16.size
      have := hm68.size
      omega
theorem del_cut {l : List RE} (hn : (keysM l).Nodup) {p : PrefM} {i : Nat} {e : RE} (he : l[i]? = some e) (hp : e.1 = p) : delL l p = l.take i ++ l.drop (i + 1) := by
  have hi : i < l.length := (List.getElem?_eq_some_iff.1 he).1
  have hsplit : l = l.take i ++ e :: l.drop (i + 1) := by
    conv => lhs; rw [← List.take_append_drop i l, List.drop_eq_getElem_cons hi]
    rw [List.getElem?_eq_getElem hi] at he
    rw [Option.some.inj he]
  have hno : ∀ (j : Nat) (d : RE), l[j]? = some d → j ≠ i → d.1 ≠ p := by
    intro j d hj hne hd
    have h1 : (keysM l)[i]? = some p := by unfold keysM; rw [List.getElem?_map, he]; simp [hp]
    have h2 : (keysM l)[j]? = some p := by unfold keysM; rw [List.getElem?_map, hj]; simp [hd]
    exact hne (((List.getElem?_inj (by unfold keysM; simpa using hi) hn).1 (h1.trans h2.symm)).symm)
  unfold delL
  conv => lhs; rw [hsplit]
  rw [List.filter_append, List.filter_cons_of_neg (by simp [hp])]
  congr 1
  · rw [List.filter_eq_self]
    intro d hd
    obtain ⟨j, hj⟩ := List.getElem?_of_mem hd
    have hjl : j < i := by have := (List.getElem?_eq_some_iff.1 hj).1; rw [List.length_take] at this; omega
    rw [List.getElem?_take, if_pos hjl] at hj
    simpa using hno j d hj (by omega)
  · rw [List.filter_eq_self]
    intro d hd
    obtain ⟨j, hj⟩ := List.getElem?_of_mem hd
    rw [List.getElem?_drop] at hj
    simpa using hno _ d hj (by omega)
theorem del_none {α : Type} {L : List (PrefM × α)} {p : PrefM} (hk : p ∉ keysM L) : delL L p = L := by
  unfold delL
  rw [List.filter_eq_self]
  intro e he
  simp only [ne_eq, decide_eq_true_eq]
  exact fun e' => hk (mem_keys.2 ⟨e.2, by rw [← e']; exact he⟩)
theorem ref_del (w : World) (A : Option Addr) (l : List RE) (c : Nat) (p : PrefM) (hp : p.addr.length = 7) (hA : Cs w A (l.flatMap reC)) (hO : ReOk l) (hs : SortedM l) (hlc : l.length ≤ c) (hl : l.length ≤ 1000000) :
    Ret Try.prog 21 #[.slice A l.length c, .agg p.cells.toArray] w fun v w' => ∃ A' c', v = .slice A' (delL l p).length c' ∧ (delL l p).length ≤ c' ∧ Cs w' A' ((delL l p).flatMap reC) ∧ (A' = A ∨ ∀ a, A' = some a → w.heap.size ≤ a.block) ∧ More w w' := by
  refine ret_of Try.func21 rfl (by kernel_rfl) (Nat.le_of_ble_eq_true (by kernel_rfl)) ?_
  have hm1 := more_alloc w (.cells p.cells.toArray 24)
  have hb1 := Blk.new w 24 p.cells.toArray
  simp (config := {maxSteps := 1000000}) only [↓zvN, zvU, ↓up_apply, ↓hv_apply, ↓upO_some, ↓upO_none, ↓ev_tmp, ↓ev_const, ↓ev_func, ↓ev_global, init, Nat.reduceEqDiff, Nat.reduceAdd, Nat.reduceMul, Nat.reduceSub, ↓reduceIte, Int.reduceEq, Int.reduceNe, Nat.reduceLeDiff, one, Value.cells, Int.reduceLE, Int.reduceLT, Int.reduceToNat, add_mk, reduceCtorEq, List.mem_range'_1, true_and, and_true, and_false, false_and, Nat.reduceLT, Nat.reduceLeDiff, tyF]
  obtain ⟨w1, hw1⟩ : ∃ w1, w.alloc (.cells p.cells.toArray 24) = w1 := ⟨_, rfl⟩
  rw [hw1] at hm1 hb1 ⊢
  clear hw1
  rw [List.toList_toArray] at hb1
  obtain ⟨pb, hpb⟩ : ∃ q, w.heap.size = q := ⟨_, rfl⟩
  rw [hpb] at hb1 ⊢
  have hpl : p.cells.length = 8 := by simp [PrefM.cells, hp]
  have v1 := hb1.all_eq 8 hpl
  simp (config := {maxSteps := 1000000}) only [↓zvN, zvU, ↓up_apply, ↓hv_apply, ↓upO_some, ↓upO_none, ↓ev_tmp, ↓ev_const, ↓ev_func, ↓ev_global, init, Nat.reduceEqDiff, Nat.reduceAdd, Nat.reduceMul, Nat.reduceSub, ↓reduceIte, Int.reduceEq, Int.reduceNe, Nat.reduceLeDiff, one, Value.cells, Int.reduceLE, Int.reduceLT, Int.reduceToNat, add_mk, reduceCtorEq, List.mem_range'_1, true_and, and_true, and_false, false_and, Nat.reduceLT, Nat.reduceLeDiff, tyF, v1]
  refine call_ok Try.call19 (ref_find w1 A l c p hp (hA.more hm1) hO hl) ?_
  rintro _ w4 ⟨rfl, hm4⟩
  have hm14 := hm1.trans hm4
  by_cases hk : p ∈ keysM l
  rotate_left
  · have hni : idxL p l 0 < 0 := by
      rcases Int.lt_or_le (idxL p l 0) 0 with h | h
      · exact h
      · exact absurd ((idx_mem l 0).1 h) hk
    rw [del_none hk]
    simp (config := {maxSteps := 1000000}) only [↓zvN, zvU, ↓up_apply, ↓hv_apply, ↓upO_some, ↓upO_none, ↓ev_tmp, ↓ev_const, ↓ev_func, ↓ev_global, init, Nat.reduceEqDiff, Nat.reduceAdd, Nat.reduceMul, Nat.reduceSub, ↓reduceIte, Int.reduceEq, Int.reduceNe, Nat.reduceLeDiff, one, Value.cells, Int.reduceLE, Int.reduceLT, Int.reduceToNat, add_mk, reduceCtorEq, List.mem_range'_1, true_and, and_true, and_false, false_and, Nat.reduceLT, Nat.reduceLeDiff, tyF, hni]
    exact ⟨A, c, rfl, hlc, hA.more hm14, .inl rfl, hm14⟩
  obtain ⟨i, hi, hil, e, he, hep⟩ := idx_get hk
  have g0 : (0 : Int) ≤ (i : Int) := by omega
  have g2 : ¬ (i : Int) < 0 := by omega
  have ei : IntKind.i64.wrap ((i : Int) + 1) = ((i + 1 : Nat) : Int) := w64 (by omega) (by omega)
  have g3 : (0 : Int) ≤ ((i + 1 : Nat) : Int) := by omega
  have g4 : ((i + 1 : Nat) : Int) ≤ (l.length : Int) := by omega
  have g5 : i + 1 ≤ l.length := by omega
  have g6 : i ≤ c := by omega
  rw [del_cut hs.nodup he hep]
  simp (config := {maxSteps := 1000000}) only [↓zvN, zvU, ↓up_apply, ↓hv_apply, ↓upO_some, ↓upO_none, ↓ev_tmp, ↓ev_const, ↓ev_func, ↓ev_global, init, Nat.reduceEqDiff, Nat.reduceAdd, Nat.reduceMul, Nat.reduceSub, ↓reduceIte, Int.reduceEq, Int.reduceNe, Nat.reduceLeDiff, one, Value.cells, Int.reduceLE, Int.reduceLT, Int.reduceToNat, add_mk, reduceCtorEq, List.mem_range'_1, true_and, and_true, and_false, false_and, Nat.reduceLT, Nat.reduceLeDiff, tyF, hi, g2]
  refine draw_line w4.heap.size More [1, 0, 0, 0, 1, 0, 0, 0, 0, 1, 0] [[], [], [], [1, 2], [0, 1, 2, 3], [], [], [6], [5, 6, 7], [0, 1, 2, 3, 4, 5, 6, 7, 8], [0, 1, 2, 3, 4, 5, 6, 7, 8, 9]] mixed (by kernel_rfl) (by kernel_rfl) (More.refl _) (fun w' h => h) (fun w' h => h) ?_
  intro w5 hm5
  simp (config := {maxSteps := 1000000}) only [↓zvN, zvU, ↓zqD, ↓sk_nil, ↓sk_cons, ↓sk_guard, ↓sk_zero, ↓sk_one, ↓sk_two, ↓up_apply, ↓hv_apply, ↓upO_some, ↓upO_none, ↓ev_tmp, ↓ev_const, ↓ev_func, ↓ev_global, init, Nat.reduceEqDiff, Nat.reduceAdd, Nat.reduceMul, Nat.reduceSub, ↓reduceIte, Int.reduceEq, Int.reduceNe, Nat.reduceLeDiff, one, Value.cells, Int.reduceLE, Int.reduceLT, Int.reduceToNat, add_mk, reduceCtorEq, List.mem_range'_1, true_and, and_true, and_false, false_and, Nat.reduceLT, Nat.reduceLeDiff, tyF, hi, g0, ei, g3, g4, g5, g6, hlc, Int.toNat_natCast]
  refine bslice0 Try.underlying41 reE ?_
  have hm6 := more_alloc w5 (.cells #[] 46)
  have ho6 := Own.made w5 46 9 #[] 0 rfl (by simp [maxLen]) (Nat.le_refl _)
  obtain ⟨w6, hw6⟩ : ∃ w6, w5.alloc (.cells #[] 46) = w6 := ⟨_, rfl⟩
  rw [hw6] at hm6 ho6 ⊢
  clear hw6
  have hm46 := hm5.trans hm6
  simp (config := {maxSteps := 1000000}) only [↓zvN, zvU, ↓zqD, ↓sk_nil, ↓sk_cons, ↓sk_guard, ↓sk_zero, ↓sk_one, ↓sk_two, ↓up_apply, ↓hv_apply, ↓upO_some, ↓upO_none, ↓ev_tmp, ↓ev_const, ↓ev_func, ↓ev_global, init, Nat.reduceEqDiff, Nat.reduceAdd, Nat.reduceMul, Nat.reduceSub, ↓reduceIte, Int.reduceEq, Int.reduceNe, Nat.reduceLeDiff, one, Value.cells, Int.reduceLE, Int.reduceLT, Int.reduceToNat, add_mk, reduceCtorEq, List.mem_range'_1, true_and, and_true, and_false, false_and, Nat.reduceLT, Nat.reduceLeDiff, tyF, hi, g0, ei, g3, g4, g5, g6, hlc, Int.toNat_natCast]
  refine ⟨hm46, ?_⟩
  have hA6 := hA.more (hm14.trans hm46)
  refine app_mod (m := i) (news := (l.take i).flatMap reC) Try.underlying41 reE rfl (by omega) ho6 (hA6.rowTake i) (by rw [row_len _ (fun m hm => hO.lens m (List.mem_of_mem_take hm)), List.length_take, Nat.min_eq_left (by omega)]) (fun u hu => by obtain ⟨e, _, he⟩ := List.mem_flatMap.1 hu; exact reC_one e u he) (by simp only [maxLen]; omega) (by omega) hm6.size ?_
  intro A9 c9 w9 ho9 hmd9 _
  simp only [Nat.zero_add, List.nil_append] at ho9 ⊢
  have hm9 : More w4 w9 := Mod.more hm46 hmd9 (fun j hj h => by have h' := (atB_some _ j).1 h; have := hm5.size; simp only at h'; omega)
  simp (config := {maxSteps := 1000000}) only [↓zvN, zvU, ↓zqD, ↓sk_nil, ↓sk_cons, ↓sk_guard, ↓sk_zero, ↓sk_one, ↓sk_two, ↓up_apply, ↓hv_apply, ↓upO_some, ↓upO_none, ↓ev_tmp, ↓ev_const, ↓ev_func, ↓ev_global, init, Nat.reduceEqDiff, Nat.reduceAdd, Nat.reduceMul, Nat.reduceSub, ↓reduceIte, Int.reduceEq, Int.reduceNe, Nat.reduceLeDiff, one, Value.cells, Int.reduceLE, Int.reduceLT, Int.reduceToNat, add_mk, reduceCtorEq, List.mem_range'_1, true_and, and_true, and_false, false_and, Nat.reduceLT, Nat.reduceLeDiff, tyF, hi, g0, ei, g3, g4, g5, g6, hlc, Int.toNat_natCast]
  refine ⟨hm9, ?_⟩
  have hA9 := (hA.more (hm14.trans hm9)).rowDrop hO.lens hlc (i + 1)
  have hsz9 := hm6.size
  have hsz10 := hmd9.size
  refine app_mod (m := l.length - (i + 1)) (news := (l.drop (i + 1)).flatMap reC) Try.underlying41 reE rfl (by omega) ho9 hA9 (by rw [row_len _ (fun m hm => hO.lens m (List.mem_of_mem_drop hm)), List.length_drop]) (fun u hu => by obtain ⟨e, _, he⟩ := List.mem_flatMap.1 hu; exact reC_one e u he) (by simp only [maxLen]; omega) (by omega) (by omega) ?_
  intro A10 c10 w10 ho10 hmd10 _
  have hm10 : More w4 w10 := Mod.more hm9 hmd10 (fun j hj h => by have := ho9.atB_ge h; have := hm5.size; omega)
  simp (config := {maxSteps := 1000000}) only [↓zvN, zvU, ↓zqD, ↓sk_nil, ↓sk_cons, ↓sk_guard, ↓sk_zero, ↓sk_one, ↓sk_two, ↓up_apply, ↓hv_apply, ↓upO_some, ↓upO_none, ↓ev_tmp, ↓ev_const, ↓ev_func, ↓ev_global, init, Nat.reduceEqDiff, Nat.reduceAdd, Nat.reduceMul, Nat.reduceSub, ↓reduceIte, Int.reduceEq, Int.reduceNe, Nat.reduceLeDiff, one, Value.cells, Int.reduceLE, Int.reduceLT, Int.reduceToNat, add_mk, reduceCtorEq, List.mem_range'_1, true_and, and_true, and_false, false_and, Nat.reduceLT, Nat.reduceLeDiff, tyF]
  have hln : (l.take i ++ l.drop (i + 1)).length = i + (l.length - (i + 1)) := by rw [List.length_append, List.length_take, List.length_drop]; omega
  have hrow : (l.take i ++ l.drop (i + 1)).flatMap reC = (l.take i).flatMap reC ++ (l.drop (i + 1)).flatMap reC := by simp
  refine ⟨hm10, A10, c10, by rw [hln]; rfl, by rw [hln]; exact ho10.le, by rw [hrow]; exact ho10.cs, .inr fun a ha => ?_, hm14.trans hm10⟩
  have := (ho10.atB_ge ⟨a, ha, rfl⟩).1
  have := hm14.size
  have := hm5.size
  omega
end Go.Proofs.Ytimhcjakpdebjaa
