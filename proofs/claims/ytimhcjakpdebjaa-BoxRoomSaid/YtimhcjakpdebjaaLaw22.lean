/-
  Layer 22: a new box; what the statements share; up to the end of the term (BoxTerms).
-/
import Derived.Test.YtimhcjakpdebjaaBoxP
import Derived.Test.YtimhcjakpdebjaaLaw21
namespace Go.Proofs.Ytimhcjakpdebjaa
open Go Go.RowKit Go.Proofs.RV
set_option linter.unusedSimpArgs false
set_option linter.unusedVariables false
set_option maxRecDepth 10000
set_option maxHeartbeats 4000000
theorem box_newW (w : World) (room : Nat) (term rate burst : Int) (ho : boxOk room term rate burst) :
    Ret Try.prog 31 #[.int .i64 room, .int .i64 term, .int .i64 rate, .int .i64 burst] w fun v w' => ∃ x b t, v = .tuple #[.pointer (some ⟨x, 0, none⟩), .int .i64 0] ∧ w.heap.size ≤ x ∧ w.heap.size ≤ b ∧ w.heap.size ≤ t ∧ BoxW w' x b t room term rate burst [] ∧ More w w' := by
  refine Calls.mono (box_new w room term rate burst) ?_
  rintro e w' ⟨v, rfl, hm, hyes, _⟩
  obtain ⟨b, q, p, n, rfl, hn, hb, hbq, hqp, hB, hQ, hP⟩ := hyes ho
  obtain rfl : n = 2 * room := by omega
  have hr := ho.1
  refine ⟨_, rfl, p, b, q, rfl, by omega, hb, by omega, ⟨hP, ⟨_, ⟨hB, by rw [List.length_replicate]; exact hQ, by omega, ?_, by rw [List.length_replicate]; omega, by rw [List.length_replicate]; omega⟩, TabRel.new room (by omega) [.int .i64 0, .pointer none], ?_⟩, ⟨fun e he => (by cases he), fun e he => (by cases he), fun e he => (by cases he)⟩, ⟨by omega, by omega⟩, by omega, ho⟩, hm⟩
  · intro x hx
    rw [List.eq_of_mem_replicate hx]
    exact zplOk_box 0
  · intro x hx
    rw [List.eq_of_mem_replicate hx]
    exact ⟨0, none, rfl⟩
theorem sweep_nil (now : Int) : sweepL now [] = [] := rfl
theorem sweep_in {now : Int} {p : PrefM} {e : BoxE} (h : max now 0 < e.until_) : sweepL now [(p, e)] = [(p, e)] := by
  unfold sweepL
  rw [List.filter_cons_of_pos (by unfold aliveB; exact decide_eq_true h)]
  rfl
theorem sweep_out {now : Int} {p : PrefM} {e : BoxE} (h : ¬ max now 0 < e.until_) : sweepL now [(p, e)] = [] := by
  unfold sweepL
  rw [List.filter_cons_of_neg (by unfold aliveB; simpa using h)]
  rfl
theorem in_one {now : Int} {p : PrefM} {e : BoxE} : inB now [(p, e)] p = decide (max now 0 < e.until_) := by
  unfold inB
  by_cases h : max now 0 < e.until_
  · rw [sweep_in h, decide_eq_true h]
    exact decide_eq_true (by simp [keysM])
  · rw [sweep_out h, decide_eq_false h]
    exact decide_eq_false (by simp [keysM])
theorem in_nil {now : Int} {p : PrefM} : inB now [] p = false := decide_eq_false (by simp [sweepL, keysM])
theorem put_nil {now : Int} {p : PrefM} {e : BoxE} {room : Nat} (hr : 1 ≤ room) : putCode now [] room p = 0 ∧ putB now [] room p e = [(p, e)] := by
  have hk : p ∉ keysM ([] : BoxL) := by simp [keysM]
  have hl : ([] : BoxL).length < room := by simp; omega
  unfold putCode putB
  rw [sweep_nil, if_neg hk, if_neg hk, if_pos hl, if_pos hl]
  refine ⟨rfl, ?_⟩
  unfold putL
  rw [if_neg hk]
  rfl
theorem put_one {now : Int} {p : PrefM} {e e' : BoxE} {room : Nat} (h : max now 0 < e.until_) : putCode now [(p, e)] room p = 7 ∧ putB now [(p, e)] room p e' = [(p, e)] := by
  have hk : p ∈ keysM [(p, e)] := by simp [keysM]
  unfold putCode putB
  rw [sweep_in h, if_pos hk, if_pos hk]
  exact ⟨rfl, rfl⟩
theorem del_one {p : PrefM} {e : BoxE} : delL [(p, e)] p = [] := by simp [delL]
theorem awake22 (w : World) : Ret Try.prog 30 #[] w fun v w' => v = .bool true ∧ More w w' := by
  refine ret_of Try.func30 rfl (by kernel_rfl) (Nat.le_of_ble_eq_true (by kernel_rfl)) ?_
  simp (config := {maxSteps := 1000000}) only [↓zvN, zvU, ↓up_apply, ↓hv_apply, ↓upO_some, ↓upO_none, ↓ev_tmp, ↓ev_const, ↓ev_func, ↓ev_global, init, Nat.reduceEqDiff, Nat.reduceAdd, Nat.reduceMul, Nat.reduceSub, ↓reduceIte, Int.reduceEq, Int.reduceNe, Nat.reduceLeDiff, one, Value.cells, Int.reduceLE, Int.reduceLT, Int.reduceToNat, add_mk, reduceCtorEq, List.mem_range'_1, true_and, and_true, and_false, false_and, Nat.reduceLT, Nat.reduceLeDiff, tyF]
  refine call_ok Try.call31 (box_newW w 1 10 0 5 ⟨by omega, by omega, by unfold tokOk; omega⟩) ?_
  rintro _ w1 ⟨x, b, t, rfl, hx, hb, ht, hB1, hm1⟩
  simp (config := {maxSteps := 1000000}) only [↓zvN, zvU, ↓up_apply, ↓hv_apply, ↓upO_some, ↓upO_none, ↓ev_tmp, ↓ev_const, ↓ev_func, ↓ev_global, init, Nat.reduceEqDiff, Nat.reduceAdd, Nat.reduceMul, Nat.reduceSub, ↓reduceIte, Int.reduceEq, Int.reduceNe, Nat.reduceLeDiff, one, Value.cells, Int.reduceLE, Int.reduceLT, Int.reduceToNat, add_mk, reduceCtorEq, List.mem_range'_1, true_and, and_true, and_false, false_and, Nat.reduceLT, Nat.reduceLeDiff, tyF, pref0 w1, zerPref]
  have hm2 := more_alloc w1 (.cells prefZ.cells.toArray 24)
  have hb2 := Blk.new w1 24 prefZ.cells.toArray
  obtain ⟨w2, hw2⟩ : ∃ w2, w1.alloc (.cells prefZ.cells.toArray 24) = w2 := ⟨_, rfl⟩
  rw [hw2] at hm2 hb2 ⊢
  clear hw2
  refine st_all hb2 rfl rfl (by simpa using PrefM.one prefZ) fun w3 j1 j2 => ?_
  rw [s2_undef]
  rw [List.toList_toArray] at j2
  have hm3 : More w1 w3 := more_but hm2 (But.of_wr j1) (Nat.le_refl _)
  have hpn : ¬ two b t w1.heap.size := by have := hB1.tab.lt; rintro (h | h) <;> omega
  obtain ⟨pb, hpb⟩ : ∃ q, w1.heap.size = q := ⟨_, rfl⟩
  rw [hpb] at j2 hpn ⊢
  have hM3 := hm1.trans hm3
  have v3 := j2.all_eq 8 rfl
  simp (config := {maxSteps := 1000000}) only [↓zvN, zvU, ↓up_apply, ↓hv_apply, ↓upO_some, ↓upO_none, ↓ev_tmp, ↓ev_const, ↓ev_func, ↓ev_global, init, Nat.reduceEqDiff, Nat.reduceAdd, Nat.reduceMul, Nat.reduceSub, ↓reduceIte, Int.reduceEq, Int.reduceNe, Nat.reduceLeDiff, one, Value.cells, Int.reduceLE, Int.reduceLT, Int.reduceToNat, add_mk, reduceCtorEq, List.mem_range'_1, true_and, and_true, and_false, false_and, Nat.reduceLT, Nat.reduceLeDiff, tyF, v3]
  refine call_ok Try.call32 (box_put w3 x b t 1 10 0 5 [] prefZ 0 rfl (hB1.more hm3) (by omega)) ?_
  rintro _ w4 ⟨q, hq, rfl, hB4, hm4⟩
  have hpn0 := put_nil (now := 0) (p := prefZ) (e := newE 0 10 0 5 q) (room := 1) (by omega)
  rw [hpn0.2] at hB4
  rw [hpn0.1]
  have hu : (newE 0 10 0 5 q).until_ = 10 := by unfold newE addM countM; rfl
  have v4 := (hm4.blk j2 hpn).all_eq 8 rfl
  simp (config := {maxSteps := 1000000}) only [↓zvN, zvU, ↓up_apply, ↓hv_apply, ↓upO_some, ↓upO_none, ↓ev_tmp, ↓ev_const, ↓ev_func, ↓ev_global, init, Nat.reduceEqDiff, Nat.reduceAdd, Nat.reduceMul, Nat.reduceSub, ↓reduceIte, Int.reduceEq, Int.reduceNe, Nat.reduceLeDiff, one, Value.cells, Int.reduceLE, Int.reduceLT, Int.reduceToNat, add_mk, reduceCtorEq, List.mem_range'_1, true_and, and_true, and_false, false_and, Nat.reduceLT, Nat.reduceLeDiff, tyF, v4]
  refine call_ok Try.call33 (box_in w4 x b t 1 10 0 5 _ prefZ 9 rfl hB4) ?_
  rintro _ w5 ⟨rfl, hB5, hm5⟩
  rw [sweep_in (by rw [hu]; decide)] at hB5
  have h9 : inB 9 [(prefZ, newE 0 10 0 5 q)] prefZ = true := by rw [in_one, hu]; rfl
  rw [h9]
  have v5 := ((hm4.trans hm5).blk j2 hpn).all_eq 8 rfl
  simp (config := {maxSteps := 1000000}) only [↓zvN, zvU, ↓up_apply, ↓hv_apply, ↓upO_some, ↓upO_none, ↓ev_tmp, ↓ev_const, ↓ev_func, ↓ev_global, init, Nat.reduceEqDiff, Nat.reduceAdd, Nat.reduceMul, Nat.reduceSub, ↓reduceIte, Int.reduceEq, Int.reduceNe, Nat.reduceLeDiff, one, Value.cells, Int.reduceLE, Int.reduceLT, Int.reduceToNat, add_mk, reduceCtorEq, List.mem_range'_1, true_and, and_true, and_false, false_and, Nat.reduceLT, Nat.reduceLeDiff, tyF, v5]
  refine call_ok Try.call33 (box_in w5 x b t 1 10 0 5 _ prefZ 10 rfl hB5) ?_
  rintro _ w6 ⟨rfl, hB6, hm6⟩
  have h10 : inB 10 [(prefZ, newE 0 10 0 5 q)] prefZ = false := by rw [in_one, hu]; rfl
  rw [h10]
  simp (config := {maxSteps := 1000000}) only [↓zvN, zvU, ↓up_apply, ↓hv_apply, ↓upO_some, ↓upO_none, ↓ev_tmp, ↓ev_const, ↓ev_func, ↓ev_global, init, Nat.reduceEqDiff, Nat.reduceAdd, Nat.reduceMul, Nat.reduceSub, ↓reduceIte, Int.reduceEq, Int.reduceNe, Nat.reduceLeDiff, one, Value.cells, Int.reduceLE, Int.reduceLT, Int.reduceToNat, add_mk, reduceCtorEq, List.mem_range'_1, true_and, and_true, and_false, false_and, Nat.reduceLT, Nat.reduceLeDiff, tyF]
  exact ⟨rfl, two_more hM3 ((hm4.trans hm5).trans hm6) hb ht⟩
theorem add_small {a b : Int} (ha : 0 ≤ a) (hb : 0 ≤ b) (ha2 : a ≤ 1099511627776) (hb2 : b ≤ 1099511627776) : addM a b = a + b := by unfold addM countM; omega
def TermJ (x b t : Nat) (tm : Int) (w w0 : World) (v27 : Value) (w' : World) : Prop := ∃ k : Nat, v27 = .int .i64 k ∧ k ≤ 2 ∧ BoxW w' x b t 1 tm 0 5 [] ∧ Mod (two b t) w0 w'
theorem box_terms (w : World) (p : PrefM) (hp : p.addr.length = 7) (a0 a1 a2 : Int) (h0 : 0 ≤ a0 ∧ a0 < 18446744073709551616) (h1 : 0 ≤ a1 ∧ a1 < 18446744073709551616) (h2 : 0 ≤ a2 ∧ a2 < 18446744073709551616) :
    Ret Try.prog 7 #[.agg p.cells.toArray, .int .u64 a0, .int .u64 a1, .int .u64 a2] w fun v w' => v = .bool true ∧ More w w' := by
  refine ret_of Try.func7 rfl (by kernel_rfl) (Nat.le_of_ble_eq_true (by kernel_rfl)) ?_
  have hm1 := more_alloc w (.cells p.cells.toArray 24)
  have hb1 := Blk.new w 24 p.cells.toArray
  simp (config := {maxSteps := 1000000}) only [↓zvN, zvU, ↓up_apply, ↓hv_apply, ↓upO_some, ↓upO_none, ↓ev_tmp, ↓ev_const, ↓ev_func, ↓ev_global, init, Nat.reduceEqDiff, Nat.reduceAdd, Nat.reduceMul, Nat.reduceSub, ↓reduceIte, Int.reduceEq, Int.reduceNe, Nat.reduceLeDiff, one, Value.cells, Int.reduceLE, Int.reduceLT, Int.reduceToNat, add_mk, reduceCtorEq, List.mem_range'_1, true_and, and_true, and_false, false_and, Nat.reduceLT, Nat.reduceLeDiff, tyF]
  obtain ⟨w1, hw1⟩ : ∃ w1, w.alloc (.cells p.cells.toArray 24) = w1 := ⟨_, rfl⟩
  rw [hw1] at hm1 hb1 ⊢
  clear hw1
  rw [List.toList_toArray] at hb1
  obtain ⟨pb, hpb⟩ : ∃ q, w.heap.size = q := ⟨_, rfl⟩
  rw [hpb] at hb1 ⊢
  have h8 : p.cells.length = 8 := by simp [PrefM.cells, hp]
  refine call_ok Try.call30 (awake22 _) ?_
  rintro _ w2 ⟨rfl, hm2⟩
  replace hb1 := hb1.more hm2
  have hM2 := hm1.trans hm2
  obtain ⟨n, hn⟩ : ∃ n, Int.tmod a0 1099511627776 = n := ⟨_, rfl⟩
  obtain ⟨m, hm⟩ : ∃ m, Int.tmod a1 1099511627776 = m := ⟨_, rfl⟩
  have hn0 : 0 ≤ n ∧ n < 1099511627776 := by rw [← hn, Int.tmod_eq_emod_of_nonneg h0.1]; omega
  have hm0 : 0 ≤ m ∧ m < 1099511627776 := by rw [← hm, Int.tmod_eq_emod_of_nonneg h1.1]; omega
  have e1 : IntKind.u64.wrap n = n := wu64 (by omega) (by omega)
  have e2 : IntKind.i64.wrap n = n := w64 (by omega) (by omega)
  have e3 : IntKind.u64.wrap m = m := wu64 (by omega) (by omega)
  have e4 : IntKind.i64.wrap m = m := w64 (by omega) (by omega)
  have e5 : IntKind.i64.wrap (1 + m) = 1 + m := w64 (by omega) (by omega)
  simp (config := {maxSteps := 1000000}) only [↓zvN, zvU, ↓up_apply, ↓hv_apply, ↓upO_some, ↓upO_none, ↓ev_tmp, ↓ev_const, ↓ev_func, ↓ev_global, init, Nat.reduceEqDiff, Nat.reduceAdd, Nat.reduceMul, Nat.reduceSub, ↓reduceIte, Int.reduceEq, Int.reduceNe, Nat.reduceLeDiff, one, Value.cells, Int.reduceLE, Int.reduceLT, Int.reduceToNat, add_mk, reduceCtorEq, List.mem_range'_1, true_and, and_true, and_false, false_and, Nat.reduceLT, Nat.reduceLeDiff, tyF, hn, hm, e1, e2, e3, e4, e5]
  obtain ⟨tm, htm⟩ : ∃ tm, 1 + m = tm := ⟨_, rfl⟩
  rw [htm] at e5 ⊢
  refine call_ok Try.call31 (box_newW w2 1 tm 0 5 ⟨by omega, by omega, by unfold tokOk; omega⟩) ?_
  rintro _ w3 ⟨x, b, t, rfl, hx, hb, ht, hB3, hm3⟩
  have hb3 := hb1.more hm3
  have hM3 := hM2.trans hm3
  have hp2 := hb1.lt
  have hlo : ∀ k, two b t k → pb < k := by rintro k (h | h) <;> omega
  simp (config := {maxSteps := 1000000}) only [↓zvN, zvU, ↓up_apply, ↓hv_apply, ↓upO_some, ↓upO_none, ↓ev_tmp, ↓ev_const, ↓ev_func, ↓ev_global, init, Nat.reduceEqDiff, Nat.reduceAdd, Nat.reduceMul, Nat.reduceSub, ↓reduceIte, Int.reduceEq, Int.reduceNe, Nat.reduceLeDiff, one, Value.cells, Int.reduceLE, Int.reduceLT, Int.reduceToNat, add_mk, reduceCtorEq, List.mem_range'_1, true_and, and_true, and_false, false_and, Nat.reduceLT, Nat.reduceLeDiff, tyF]
  refine loop_p (List.range' 27 46) (fun e w' => TermJ x b t tm w w3 (e 27) w') (fun e _ => 2 - (numOf (e 27)).toNat) ?_ ?_
  · exact ⟨0, by simp only [hv_apply, up_apply, upO_some, upO_none, init, List.mem_cons, List.mem_range'_1, true_and, and_true, and_false, false_and, Nat.reduceLT, Nat.reduceLeDiff, Nat.reduceAdd, true_or, or_true, if_true, if_false, ↓reduceIte, Nat.reduceEqDiff, false_or, or_false, List.not_mem_nil, List.getElem?_cons_zero, List.getElem?_cons_succ, Option.getD_some] <;> rfl, by omega, hB3, Mod.refl _ _⟩
  rintro v w4 ⟨k, h27, hk, hB4, hm4⟩
  simp only [hv_apply, up_apply, upO_some, upO_none, init, List.mem_cons, List.mem_range'_1, true_and, and_true, and_false, false_and, Nat.reduceLT, Nat.reduceLeDiff, Nat.reduceAdd, true_or, or_true, if_true, if_false, ↓reduceIte, Nat.reduceEqDiff, false_or, or_false, List.not_mem_nil, List.getElem?_cons_zero, List.getElem?_cons_succ, Option.getD_some] at h27
  have ek : IntKind.i64.wrap ((k : Int) + 1) = ((k + 1 : Nat) : Int) := w64 (by omega) (by omega)
  have hb4 := hm4.blk hb3 (fun h => by have := hlo _ h; omega)
  have v4 := hb4.all_eq 8 h8
  have l4 := hb4.lt
  have hmx : max n 0 = n := by omega
  simp (config := {maxSteps := 1000000}) only [↓zvN, zvU, ↓up_apply, ↓hv_apply, ↓upO_some, ↓upO_none, ↓ev_tmp, ↓ev_const, ↓ev_func, ↓ev_global, init, Nat.reduceEqDiff, Nat.reduceAdd, Nat.reduceMul, Nat.reduceSub, ↓reduceIte, Int.reduceEq, Int.reduceNe, Nat.reduceLeDiff, one, Value.cells, Int.reduceLE, Int.reduceLT, Int.reduceToNat, add_mk, reduceCtorEq, List.mem_range'_1, true_and, and_true, and_false, false_and, Nat.reduceLT, Nat.reduceLeDiff, tyF, h27]
  have htn : tm ≤ 1099511627776 ∧ 1 ≤ tm := by omega
  refine ⟨fun h9 => ?_, fun h9 => ?_⟩
  · obtain ⟨mm, hmm⟩ : ∃ mm, Int.tmod a2 tm = mm := ⟨_, rfl⟩
    have hmm0 : 0 ≤ mm ∧ mm < tm := by
      rw [← hmm, Int.tmod_eq_emod_of_nonneg h2.1]
      exact ⟨Int.emod_nonneg _ (by omega), Int.emod_lt_of_pos _ (by omega)⟩
    have f1 : IntKind.u64.wrap tm = tm := wu64 (by omega) (by omega)
    have f2 : ¬ tm = 0 := by omega
    have f3 : IntKind.u64.wrap mm = mm := wu64 (by omega) (by omega)
    have f4 : IntKind.i64.wrap mm = mm := w64 (by omega) (by omega)
    have f5 : IntKind.i64.wrap (n + mm) = n + mm := w64 (by omega) (by omega)
    have f6 : IntKind.i64.wrap (n + tm) = n + tm := w64 (by omega) (by omega)
    have f7 : IntKind.i64.wrap (n + tm - 1) = n + tm - 1 := w64 (by omega) (by omega)
    have nx : ∀ {a c d : World}, KeepF (pb + 1) (fun _ => False) a c → Mod (two b t) c d → a.heap.size ≥ pb + 1 → KeepF (pb + 1) (fun _ => False) a d := fun h1 h2 h3 => h1.next h2 (fun _ h => h.elim) (fun k hk h => by have := hlo k h; omega) (fun _ h => h.elim) (by have := h1.1.size; omega)
    refine draw_line (pb + 1) (KeepF (pb + 1) fun _ => False) [0, 0, 0, 1, 0, 0, 0, 0, 0, 1, 0, 0, 0, 0, 0, 0, 0, 0, 0, 0, 0, 0, 1, 0, 0, 0, 0, 0, 0, 0, 0, 0, 1, 0, 0, 0, 0, 0, 0, 0, 0, 1, 0] [[], [], [], [0, 1, 2], [0, 1, 2, 3], [0, 1, 2, 3, 4], [0, 1, 2, 3, 4, 5], [0, 1, 2, 3, 4, 5], [0, 1, 2, 3, 4, 5], [0, 1, 2, 3, 4, 5, 6, 7, 8], [0, 1, 2, 3, 4, 5, 6, 7, 8, 9], [0, 1, 2, 3, 4, 5, 6, 7, 8, 9, 10], [0, 1, 2, 3, 4, 5, 6, 7, 8, 9, 10, 11], [0, 1, 2, 3, 4, 5, 6, 7, 8, 9, 10, 11, 12], [0, 1, 2, 3, 4, 5, 6, 7, 8, 9, 10, 11, 12], [0, 1, 2, 3, 4, 5, 6, 7, 8, 9, 10, 11, 12], [0, 1, 2, 3, 4, 5, 6, 7, 8, 9, 10, 11, 12], [0, 1, 2, 3, 4, 5, 6, 7, 8, 9, 10, 11, 12], [0, 1, 2, 3, 4, 5, 6, 7, 8, 9, 10, 11, 12, 17], [0, 1, 2, 3, 4, 5, 6, 7, 8, 9, 10, 11, 12, 16, 17, 18], [0, 1, 2, 3, 4, 5, 6, 7, 8, 9, 10, 11, 12, 16, 17, 18, 19], [0, 1, 2, 3, 4, 5, 6, 7, 8, 9, 10, 11, 12, 15, 16, 17, 18, 19, 20], [0, 1, 2, 3, 4, 5, 6, 7, 8, 9, 10, 11, 12, 13, 14, 15, 16, 17, 18, 19, 20, 21], [0, 1, 2, 3, 4, 5, 6, 7, 8, 9, 10, 11, 12, 13, 14, 15, 16, 17, 18, 19, 20, 21, 22], [0, 1, 2, 3, 4, 5, 6, 7, 8, 9, 10, 11, 12, 13, 14, 15, 16, 17, 18, 19, 20, 21, 22, 23], [0, 1, 2, 3, 4, 5, 6, 7, 8, 9, 10, 11, 12, 13, 14, 15, 16, 17, 18, 19, 20, 21, 22, 23, 24], [0, 1, 2, 3, 4, 5, 6, 7, 8, 9, 10, 11, 12, 13, 14, 15, 16, 17, 18, 19, 20, 21, 22, 23, 24, 25], [0, 1, 2, 3, 4, 5, 6, 7, 8, 9, 10, 11, 12, 13, 14, 15, 16, 17, 18, 19, 20, 21, 22, 23, 24, 25], [0, 1, 2, 3, 4, 5, 6, 7, 8, 9, 10, 11, 12, 13, 14, 15, 16, 17, 18, 19, 20, 21, 22, 23, 24, 25], [0, 1, 2, 3, 4, 5, 6, 7, 8, 9, 10, 11, 12, 13, 14, 15, 16, 17, 18, 19, 20, 21, 22, 23, 24, 25], [0, 1, 2, 3, 4, 5, 6, 7, 8, 9, 10, 11, 12, 13, 14, 15, 16, 17, 18, 19, 20, 21, 22, 23, 24, 25, 28, 29], [0, 1, 2, 3, 4, 5, 6, 7, 8, 9, 10, 11, 12, 13, 14, 15, 16, 17, 18, 19, 20, 21, 22, 23, 24, 25, 28, 29, 30], [0, 1, 2, 3, 4, 5, 6, 7, 8, 9, 10, 11, 12, 13, 14, 15, 16, 17, 18, 19, 20, 21, 22, 23, 24, 25, 26, 27, 28, 29, 30, 31], [0, 1, 2, 3, 4, 5, 6, 7, 8, 9, 10, 11, 12, 13, 14, 15, 16, 17, 18, 19, 20, 21, 22, 23, 24, 25, 26, 27, 28, 29, 30, 31, 32], [0, 1, 2, 3, 4, 5, 6, 7, 8, 9, 10, 11, 12, 13, 14, 15, 16, 17, 18, 19, 20, 21, 22, 23, 24, 25, 26, 27, 28, 29, 30, 31, 32, 33], [0, 1, 2, 3, 4, 5, 6, 7, 8, 9, 10, 11, 12, 13, 14, 15, 16, 17, 18, 19, 20, 21, 22, 23, 24, 25, 26, 27, 28, 29, 30, 31, 32, 33, 34], [0, 1, 2, 3, 4, 5, 6, 7, 8, 9, 10, 11, 12, 13, 14, 15, 16, 17, 18, 19, 20, 21, 22, 23, 24, 25, 26, 27, 28, 29, 30, 31, 32, 33, 34, 35], [0, 1, 2, 3, 4, 5, 6, 7, 8, 9, 10, 11, 12, 13, 14, 15, 16, 17, 18, 19, 20, 21, 22, 23, 24, 25, 26, 27, 28, 29, 30, 31, 32, 33, 34, 35], [0, 1, 2, 3, 4, 5, 6, 7, 8, 9, 10, 11, 12, 13, 14, 15, 16, 17, 18, 19, 20, 21, 22, 23, 24, 25, 26, 27, 28, 29, 30, 31, 32, 33, 34, 35], [0, 1, 2, 3, 4, 5, 6, 7, 8, 9, 10, 11, 12, 13, 14, 15, 16, 17, 18, 19, 20, 21, 22, 23, 24, 25, 26, 27, 28, 29, 30, 31, 32, 33, 34, 35], [0, 1, 2, 3, 4, 5, 6, 7, 8, 9, 10, 11, 12, 13, 14, 15, 16, 17, 18, 19, 20, 21, 22, 23, 24, 25, 26, 27, 28, 29, 30, 31, 32, 33, 34, 35, 38, 39], [0, 1, 2, 3, 4, 5, 6, 7, 8, 9, 10, 11, 12, 13, 14, 15, 16, 17, 18, 19, 20, 21, 22, 23, 24, 25, 26, 27, 28, 29, 30, 31, 32, 33, 34, 35, 36, 37, 38, 39, 40], [0, 1, 2, 3, 4, 5, 6, 7, 8, 9, 10, 11, 12, 13, 14, 15, 16, 17, 18, 19, 20, 21, 22, 23, 24, 25, 26, 27, 28, 29, 30, 31, 32, 33, 34, 35, 36, 37, 38, 39, 40, 41]] mixed (by kernel_rfl) (by kernel_rfl) (KeepF.refl _ _ _) (fun w' h => KeepF.of_more h (by omega) (fun _ h => h.elim)) (fun w' h => h.1) ?_
    intro w5 hm5
    have hk5 : KeepF (pb + 1) (fun _ => False) w4 w5 := KeepF.of_more hm5 (by omega) (fun _ h => h.elim)
    have lpb : pb < pb + 1 := by omega
    simp (config := {maxSteps := 1000000}) only [↓zvN, zvU, ↓zqD, ↓sk_nil, ↓sk_cons, ↓sk_guard, ↓sk_zero, ↓sk_one, ↓sk_two, ↓up_apply, ↓hv_apply, ↓upO_some, ↓upO_none, ↓ev_tmp, ↓ev_const, ↓ev_func, ↓ev_global, init, Nat.reduceEqDiff, Nat.reduceAdd, Nat.reduceMul, Nat.reduceSub, ↓reduceIte, Int.reduceEq, Int.reduceNe, Nat.reduceLeDiff, one, Value.cells, Int.reduceLE, Int.reduceLT, Int.reduceToNat, add_mk, reduceCtorEq, List.mem_range'_1, true_and, and_true, and_false, false_and, Nat.reduceLT, Nat.reduceLeDiff, tyF, v4, lpb, hn, hm, e1, e2, e3, e4, e5]
    refine call_ok Try.call32 (box_put w5 x b t 1 tm 0 5 [] p n hp (hB4.more hm5) (by omega)) ?_
    rintro _ w6 ⟨q, hq, rfl, hB6, hm6⟩
    have hpn0 := put_nil (now := n) (p := p) (e := newE n tm 0 5 q) (room := 1) (by omega)
    rw [hpn0.2] at hB6
    rw [hpn0.1]
    have hu : (newE n tm 0 5 q).until_ = n + tm := add_small (by omega) (by omega) (by omega) (by omega)
    obtain ⟨ee, hee⟩ : ∃ ee, newE n tm 0 5 q = ee := ⟨_, rfl⟩
    rw [hee] at hB6 hu
    have hk6 := nx hk5 hm6 (by omega)
    simp (config := {maxSteps := 1000000}) only [↓zvN, zvU, ↓zqD, ↓sk_nil, ↓sk_cons, ↓sk_guard, ↓sk_zero, ↓sk_one, ↓sk_two, ↓up_apply, ↓hv_apply, ↓upO_some, ↓upO_none, ↓ev_tmp, ↓ev_const, ↓ev_func, ↓ev_global, init, Nat.reduceEqDiff, Nat.reduceAdd, Nat.reduceMul, Nat.reduceSub, ↓reduceIte, Int.reduceEq, Int.reduceNe, Nat.reduceLeDiff, one, Value.cells, Int.reduceLE, Int.reduceLT, Int.reduceToNat, add_mk, reduceCtorEq, List.mem_range'_1, true_and, and_true, and_false, false_and, Nat.reduceLT, Nat.reduceLeDiff, tyF, v4, lpb, hn, hm, e1, e2, e3, e4, e5]
    refine ⟨hk6, ?_⟩
    refine call_ok Try.call32 (box_put w6 x b t 1 tm 0 5 _ p n hp hB6 (by omega)) ?_
    rintro _ w7 ⟨q', hq', rfl, hB7, hm7⟩
    have hp1 := put_one (now := n) (p := p) (e := ee) (e' := newE n tm 0 5 q') (room := 1) (by omega)
    rw [hp1.2] at hB7
    rw [hp1.1]
    have hk7 := nx hk6 hm7 (by omega)
    simp (config := {maxSteps := 1000000}) only [↓zvN, zvU, ↓zqD, ↓sk_nil, ↓sk_cons, ↓sk_guard, ↓sk_zero, ↓sk_one, ↓sk_two, ↓up_apply, ↓hv_apply, ↓upO_some, ↓upO_none, ↓ev_tmp, ↓ev_const, ↓ev_func, ↓ev_global, init, Nat.reduceEqDiff, Nat.reduceAdd, Nat.reduceMul, Nat.reduceSub, ↓reduceIte, Int.reduceEq, Int.reduceNe, Nat.reduceLeDiff, one, Value.cells, Int.reduceLE, Int.reduceLT, Int.reduceToNat, add_mk, reduceCtorEq, List.mem_range'_1, true_and, and_true, and_false, false_and, Nat.reduceLT, Nat.reduceLeDiff, tyF, v4, lpb, hn, hm, hmm, htm, e1, e2, e3, e4, e5, f1, f2, f3, f4, f5, f6, f7]
    refine ⟨hk7, ?_⟩
    refine call_ok Try.call33 (box_in w7 x b t 1 tm 0 5 _ p (n + mm) hp hB7) ?_
    rintro _ w8 ⟨rfl, hB8, hm8⟩
    have hin8 : inB (n + mm) [(p, ee)] p = true := by rw [in_one]; exact decide_eq_true (by omega)
    rw [sweep_in (by omega)] at hB8
    rw [hin8]
    have hk8 := nx hk7 hm8 (by omega)
    simp (config := {maxSteps := 1000000}) only [↓zvN, zvU, ↓zqD, ↓sk_nil, ↓sk_cons, ↓sk_guard, ↓sk_zero, ↓sk_one, ↓sk_two, ↓up_apply, ↓hv_apply, ↓upO_some, ↓upO_none, ↓ev_tmp, ↓ev_const, ↓ev_func, ↓ev_global, init, Nat.reduceEqDiff, Nat.reduceAdd, Nat.reduceMul, Nat.reduceSub, ↓reduceIte, Int.reduceEq, Int.reduceNe, Nat.reduceLeDiff, one, Value.cells, Int.reduceLE, Int.reduceLT, Int.reduceToNat, add_mk, reduceCtorEq, List.mem_range'_1, true_and, and_true, and_false, false_and, Nat.reduceLT, Nat.reduceLeDiff, tyF, v4, lpb, hn, hm, hmm, htm, e1, e2, e3, e4, e5, f1, f2, f3, f4, f5, f6, f7]
    refine ⟨hk8, ?_⟩
    refine call_ok Try.call33 (box_in w8 x b t 1 tm 0 5 _ p (n + tm - 1) hp hB8) ?_
    rintro _ w9 ⟨rfl, hB9, hm9⟩
    have hin9 : inB (n + tm - 1) [(p, ee)] p = true := by rw [in_one]; exact decide_eq_true (by omega)
    rw [sweep_in (by omega)] at hB9
    rw [hin9]
    have hk9 := nx hk8 hm9 (by omega)
    simp (config := {maxSteps := 1000000}) only [↓zvN, zvU, ↓zqD, ↓sk_nil, ↓sk_cons, ↓sk_guard, ↓sk_zero, ↓sk_one, ↓sk_two, ↓up_apply, ↓hv_apply, ↓upO_some, ↓upO_none, ↓ev_tmp, ↓ev_const, ↓ev_func, ↓ev_global, init, Nat.reduceEqDiff, Nat.reduceAdd, Nat.reduceMul, Nat.reduceSub, ↓reduceIte, Int.reduceEq, Int.reduceNe, Nat.reduceLeDiff, one, Value.cells, Int.reduceLE, Int.reduceLT, Int.reduceToNat, add_mk, reduceCtorEq, List.mem_range'_1, true_and, and_true, and_false, false_and, Nat.reduceLT, Nat.reduceLeDiff, tyF, v4, lpb, hn, hm, hmm, htm, e1, e2, e3, e4, e5, f1, f2, f3, f4, f5, f6, f7]
    refine ⟨hk9, ?_⟩
    refine call_ok Try.call33 (box_in w9 x b t 1 tm 0 5 _ p (n + tm) hp hB9) ?_
    rintro _ w10 ⟨rfl, hB10, hm10⟩
    have hin10 : inB (n + tm) [(p, ee)] p = false := by rw [in_one]; exact decide_eq_false (by omega)
    rw [sweep_out (by omega)] at hB10
    rw [hin10]
    have hk10 := nx hk9 hm10 (by omega)
    simp (config := {maxSteps := 1000000}) only [↓zvN, zvU, ↓zqD, ↓sk_nil, ↓sk_cons, ↓sk_guard, ↓sk_zero, ↓sk_one, ↓sk_two, ↓up_apply, ↓hv_apply, ↓upO_some, ↓upO_none, ↓ev_tmp, ↓ev_const, ↓ev_func, ↓ev_global, init, Nat.reduceEqDiff, Nat.reduceAdd, Nat.reduceMul, Nat.reduceSub, ↓reduceIte, Int.reduceEq, Int.reduceNe, Nat.reduceLeDiff, one, Value.cells, Int.reduceLE, Int.reduceLT, Int.reduceToNat, add_mk, reduceCtorEq, List.mem_range'_1, true_and, and_true, and_false, false_and, Nat.reduceLT, Nat.reduceLeDiff, tyF]
    refine ⟨hk10, ?_⟩
    try simp (config := {maxSteps := 1000000}) only [↓zvN, zvU, ↓up_apply, ↓hv_apply, ↓upO_some, ↓upO_none, ↓ev_tmp, ↓ev_const, ↓ev_func, ↓ev_global, init, Nat.reduceEqDiff, Nat.reduceAdd, Nat.reduceMul, Nat.reduceSub, ↓reduceIte, Int.reduceEq, Int.reduceNe, Nat.reduceLeDiff, one, Value.cells, Int.reduceLE, Int.reduceLT, Int.reduceToNat, add_mk, reduceCtorEq, List.mem_range'_1, true_and, and_true, and_false, false_and, Nat.reduceLT, Nat.reduceLeDiff, tyF, h27, ek]
    refine ⟨⟨?_, k + 1, rfl, by omega, hB10, (((((hm4.trans (Mod.of_more hm5)).trans hm6).trans hm7).trans hm8).trans hm9).trans hm10⟩, by simp only [numOf]; omega⟩
    try simp only [hn, hm, e1, e2, e3, e4, htm, e5]
    repeat (first | exact Same.hv _ _ _ | refine Same.up (by simp) ?_)
  have v4 := hb4.all_eq 8 h8
  simp (config := {maxSteps := 1000000}) only [↓zvN, zvU, ↓up_apply, ↓hv_apply, ↓upO_some, ↓upO_none, ↓ev_tmp, ↓ev_const, ↓ev_func, ↓ev_global, init, Nat.reduceEqDiff, Nat.reduceAdd, Nat.reduceMul, Nat.reduceSub, ↓reduceIte, Int.reduceEq, Int.reduceNe, Nat.reduceLeDiff, one, Value.cells, Int.reduceLE, Int.reduceLT, Int.reduceToNat, add_mk, reduceCtorEq, List.mem_range'_1, true_and, and_true, and_false, false_and, Nat.reduceLT, Nat.reduceLeDiff, tyF, v4]
  refine call_ok Try.call32 (box_put w4 x b t 1 tm 0 5 [] p n hp hB4 (by omega)) ?_
  rintro _ w6 ⟨q, hq, rfl, hB6, hm6⟩
  have hpn0 := put_nil (now := n) (p := p) (e := newE n tm 0 5 q) (room := 1) (by omega)
  rw [hpn0.2] at hB6
  rw [hpn0.1]
  have hu : (newE n tm 0 5 q).until_ = n + tm := add_small (by omega) (by omega) (by omega) (by omega)
  obtain ⟨ee, hee⟩ : ∃ ee, newE n tm 0 5 q = ee := ⟨_, rfl⟩
  rw [hee] at hB6 hu
  have hno : ¬ two b t pb := fun h => by have := hlo _ h; omega
  have v6 := (hm6.blk hb4 hno).all_eq 8 h8
  simp (config := {maxSteps := 1000000}) only [↓zvN, zvU, ↓up_apply, ↓hv_apply, ↓upO_some, ↓upO_none, ↓ev_tmp, ↓ev_const, ↓ev_func, ↓ev_global, init, Nat.reduceEqDiff, Nat.reduceAdd, Nat.reduceMul, Nat.reduceSub, ↓reduceIte, Int.reduceEq, Int.reduceNe, Nat.reduceLeDiff, one, Value.cells, Int.reduceLE, Int.reduceLT, Int.reduceToNat, add_mk, reduceCtorEq, List.mem_range'_1, true_and, and_true, and_false, false_and, Nat.reduceLT, Nat.reduceLeDiff, tyF, v6, hn, e1, e2]
  refine call_ok Try.call34 (box_drop w6 x b t 1 tm 0 5 _ p n hp hB6) ?_
  rintro _ w7 ⟨rfl, hB7, hm7⟩
  have hin7 : inB n [(p, ee)] p = true := by rw [in_one]; exact decide_eq_true (by omega)
  rw [sweep_in (by omega), del_one] at hB7
  rw [hin7]
  have v7 := ((hm6.trans hm7).blk hb4 hno).all_eq 8 h8
  simp (config := {maxSteps := 1000000}) only [↓zvN, zvU, ↓up_apply, ↓hv_apply, ↓upO_some, ↓upO_none, ↓ev_tmp, ↓ev_const, ↓ev_func, ↓ev_global, init, Nat.reduceEqDiff, Nat.reduceAdd, Nat.reduceMul, Nat.reduceSub, ↓reduceIte, Int.reduceEq, Int.reduceNe, Nat.reduceLeDiff, one, Value.cells, Int.reduceLE, Int.reduceLT, Int.reduceToNat, add_mk, reduceCtorEq, List.mem_range'_1, true_and, and_true, and_false, false_and, Nat.reduceLT, Nat.reduceLeDiff, tyF, v7, hn, e1, e2]
  refine call_ok Try.call33 (box_in w7 x b t 1 tm 0 5 _ p n hp hB7) ?_
  rintro _ w8 ⟨rfl, hB8, hm8⟩
  rw [in_nil]
  have v8 := (((hm6.trans hm7).trans hm8).blk hb4 hno).all_eq 8 h8
  simp (config := {maxSteps := 1000000}) only [↓zvN, zvU, ↓up_apply, ↓hv_apply, ↓upO_some, ↓upO_none, ↓ev_tmp, ↓ev_const, ↓ev_func, ↓ev_global, init, Nat.reduceEqDiff, Nat.reduceAdd, Nat.reduceMul, Nat.reduceSub, ↓reduceIte, Int.reduceEq, Int.reduceNe, Nat.reduceLeDiff, one, Value.cells, Int.reduceLE, Int.reduceLT, Int.reduceToNat, add_mk, reduceCtorEq, List.mem_range'_1, true_and, and_true, and_false, false_and, Nat.reduceLT, Nat.reduceLeDiff, tyF, v8, hn, e1, e2]
  refine call_ok Try.call34 (box_drop w8 x b t 1 tm 0 5 _ p n hp hB8) ?_
  rintro _ w9 ⟨rfl, hB9, hm9⟩
  rw [show inB n (sweepL n []) p = false from in_nil]
  simp (config := {maxSteps := 1000000}) only [↓zvN, zvU, ↓up_apply, ↓hv_apply, ↓upO_some, ↓upO_none, ↓ev_tmp, ↓ev_const, ↓ev_func, ↓ev_global, init, Nat.reduceEqDiff, Nat.reduceAdd, Nat.reduceMul, Nat.reduceSub, ↓reduceIte, Int.reduceEq, Int.reduceNe, Nat.reduceLeDiff, one, Value.cells, Int.reduceLE, Int.reduceLT, Int.reduceToNat, add_mk, reduceCtorEq, List.mem_range'_1, true_and, and_true, and_false, false_and, Nat.reduceLT, Nat.reduceLeDiff, tyF]
  exact ⟨rfl, two_more hM3 ((((hm4.trans hm6).trans hm7).trans hm8).trans hm9) (by omega) (by omega)⟩
end Go.Proofs.Ytimhcjakpdebjaa
