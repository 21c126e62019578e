/-
  Layer 22: a new box; what the statements share; up to the end of the term (BoxTerms).
-/
import Derived.Test.YtimhcjakpdebjaaBoxP
import Derived.Test.YtimhcjakpdebjaaLaw21
namespace Go.Proofs.Ytimhcjakpdebjaa
open Go Go.RowKit Go.Proofs.RV
set_option linter.unusedSimpArgs false
set_option linter.unusedVariables false
set_option maxRecDepth 10000
set_option maxHeartbeats 4000000
theorem box_newW (w : World) (room : Nat) (term rate burst : Int) (ho : boxOk room term rate burst) :
    Ret Try.prog 31 #[.int .i64 room, .int .i64 term, .int .i64 rate, .int .i64 burst] w fun v w' => ∃ x b t, v = .tuple #[.pointer (some ⟨x, 0, none⟩), .int .i64 0] ∧ w.heap.size ≤ x ∧ w.heap.size ≤ b ∧ w.heap.size ≤ t ∧ BoxW w' x b t room term rate burst [] ∧ More w w' := by
  refine Calls.mono (box_new w room term rate burst) ?_
  rintro e w' ⟨v, rfl, hm, hyes, _⟩
  obtain ⟨b, q, p, n, rfl, hn, hb, hbq, hqp, hB, hQ, hP⟩ := hyes ho
  obtain rfl : n = 2 * room := by omega
  have hr := ho.1
  refine ⟨_, rfl, p, b, q, rfl, by omega, hb, by omega, ⟨hP, ⟨_, ⟨hB, by rw [List.length_replicate]; exact hQ, by omega, ?_, by rw [List.length_replicate]; omega, by rw [List.length_replicate]; omega⟩, TabRel.new room (by omega) [.int .i64 0, .pointer none], ?_⟩, ⟨fun e he => (by cases he), fun e he => (by cases he), fun e he => (by cases he)⟩, ⟨by omega, by omega⟩, by omega, ho⟩, hm⟩
  · intro x hx
    rw [List.eq_of_mem_replicate hx]
    exact zplOk_box 0
  · intro x hx
    rw [List.eq_of_mem_replicate hx]
    exact ⟨0, none, rfl⟩
theorem sweep_nil (now : Int) : sweepL now [] = [] := rfl
theorem sweep_in {now : Int} {p : PrefM} {e : BoxE} (h : max now 0 < e.until_) : sweepL now [(p, e)] = [(p, e)] := by
  unfold sweepL
  rw [List.filter_cons_of_pos (by unfold aliveB; exact decide_eq_true h)]
  rfl
theorem sweep_out {now : Int} {p : PrefM} {e : BoxE} (h : ¬ max now 0 < e.until_) : sweepL now [(p, e)] = [] := by
  unfold sweepL
  rw [List.filter_cons_of_neg (by unfold aliveB; simpa using h)]
  rfl
theorem in_one {now : Int} {p : PrefM} {e : BoxE} : inB now [(p, e)] p = decide (max now 0 < e.until_) := by
  unfold inB
  by_cases h : max now 0 < e.until_
  · rw [sweep_in h, decide_eq_true h]
    exact decide_eq_true (by simp [keysM])
  · rw [sweep_out h, decide_eq_false h]
    exact decide_eq_false (by simp [keysM])
theorem in_nil {now : Int} {p : PrefM} : inB now [] p = false := decide_eq_false (by simp [sweepL, keysM])
theorem put_nil {now : Int} {p : PrefM} {e : BoxE} {room : Nat} (hr : 1 ≤ room) : putCode now [] room p = 0 ∧ putB now [] room p e = [(p, e)] := by
  have hk : p ∉ keysM ([] : BoxL) := by simp [keysM]
  have hl : ([] : BoxL).length < room := by simp; omega
  unfold putCode putB
  rw [sweep_nil, if_neg hk, if_neg hk, if_pos hl, if_pos hl]
  refine ⟨rfl, ?_⟩
  unfold putL
  rw [if_neg hk]
  rfl
theorem put_one {now : Int} {p : PrefM} {e e' : BoxE} {room : Nat} (h : max now 0 < e.until_) : putCode now [(p, e)] room p = 7 ∧ putB now [(p, e)] room p e' = [(p, e)] := by
  have hk : p ∈ keysM [(p, e)] := by simp [keysM]
  unfold putCode putB
  rw [sweep_in h, if_pos hk, if_pos hk]
  exact ⟨rfl, rfl⟩
theorem del_one {p : PrefM} {e : BoxE} : delL [(p, e)] p = [] := by simp [delL]
theorem awake22 (w : World) : Ret Try.prog 30 #[] w fun v w' => v = .bool true ∧ More w w' := by
  refine ret_of Try.func30 rfl (by kernel_rfl) (Nat.le_of_ble_eq_true (by kernel_rfl)) ?_
  simp (config := {maxSteps := 1000000}) only [↓zvN, zvU, ↓up_apply, ↓hv_apply, ↓upO_some, ↓upO_none, ↓ev_tmp, ↓ev_const, ↓ev_func, ↓ev_global, init, Nat.reduceEqDiff, Nat.reduceAdd, Nat.reduceMul, Nat.reduceSub, ↓reduceIte, Int.reduceEq, Int.reduceNe, Nat.reduceLeDiff, one, Value.cells, Int.reduceLE, Int.reduceLT, Int.reduceToNat, add_mk, reduceCtorEq, List.mem_range'_1, true_and, and_true, and_false, false_and, Nat.reduceLT, Nat.reduceLeDiff, tyF]
  refine call_ok Try.call31 (box_newW w 1 10 0 5 ⟨by omega, by omega, by unfold tokOk; omega⟩) ?_
  rintro _ w1 ⟨x, b, t, rfl, hx, hb, ht, hB1, hm1⟩
  simp (config := {maxSteps := 1000000}) only [↓zvN, zvU, ↓up_apply, ↓hv_apply, ↓upO_some, ↓upO_none, ↓ev_tmp, ↓ev_const, ↓ev_func, ↓ev_global, init, Nat.reduceEqDiff, Nat.reduceAdd, Nat.reduceMul, Nat.reduceSub, ↓reduceIte, Int.reduceEq, Int.reduceNe, Nat.reduceLeDiff, one, Value.cells, Int.reduceLE, Int.reduceLT, Int.reduceToNat, add_mk, reduceCtorEq, List.mem_range'_1, true_and, and_true, and_false, false_and, Nat.reduceLT, Nat.reduceLeDiff, tyF, pref0 w1, zerPref]
  have hm2 := more_alloc w1 (.cells prefZ.cells.toArray 24)
  have hb2 := Blk.new w1 24 prefZ.cells.toArray
  obtain ⟨w2, hw2⟩ : ∃ w2, w1.alloc (.cells prefZ.cells.toArray 24) = w2 := ⟨_, rfl⟩
  rw [hw2] at hm2 hb2 ⊢
  clear hw2
  refine st_all hb2 rfl rfl (by simpa using PrefM.one prefZ) fun w3 j1 j2 => ?_
  rw [s2_undef]
  rw [List.toList_toArray] at j2
  have hm3 : More w1 w3 := more_but hm2 (But.of_wr j1) (Nat.le_refl _)
  have hpn : ¬ two b t w1.heap.size := by have := hB1.tab.lt; rintro (h | h) <;> omega
  obtain ⟨pb, hpb⟩ : ∃ q, w1.heap.size = q := ⟨_, rfl⟩
  rw [hpb] at j2 hpn ⊢
  have hM3 := hm1.trans hm3
  have v3 := j2.all_eq 8 rfl
  simp (config := {maxSteps := 1000000}) only [↓zvN, zvU, ↓up_apply, ↓hv_apply, ↓upO_some, ↓upO_none, ↓ev_tmp, ↓ev_const, ↓ev_func, ↓ev_global, init, Nat.reduceEqDiff, Nat.reduceAdd, Nat.reduceMul, Nat.reduceSub, ↓reduceIte, Int.reduceEq, Int.reduceNe, Nat.reduceLeDiff, one, Value.cells, Int.reduceLE, Int.reduceLT, Int.reduceToNat, add_mk, reduceCtorEq, List.mem_range'_1, true_and, and_true, and_false, false_and, Nat.reduceLT, Nat.reduceLeDiff, tyF, v3]
  refine call_ok Try.call32 (box_put w3 x b t 1 10 0 5 [] prefZ 0 rfl (hB1.more hm3) (by omega)) ?_
  rintro _ w4 ⟨q, hq, rfl, hB4, hm4⟩
  have hpn0 := put_nil (now := 0) (p := prefZ) (e := newE 0 10 0 5 q) (room := 1) (by omega)
  rw [hpn0.2] at hB4
  rw [hpn0.1]
  have hu : (newE 0 10 0 5 q).until_ = 10 := by unfold newE addM countM; rfl
  have v4 := (hm4.blk j2 hpn).all_eq 8 rfl
  simp (config := {maxSteps := 1000000}) only [↓zvN, zvU, ↓up_apply, ↓hv_apply, ↓upO_some, ↓upO_none, ↓ev_tmp, ↓ev_const, ↓ev_func, ↓ev_global, init, Nat.reduceEqDiff, Nat.reduceAdd, Nat.reduceMul, Nat.reduceSub, ↓reduceIte, Int.reduceEq, Int.reduceNe, Nat.reduceLeDiff, one, Value.cells, Int.reduceLE, Int.reduceLT, Int.reduceToNat, add_mk, reduceCtorEq, List.mem_range'_1, true_and, and_true, and_false, false_and, Nat.reduceLT, Nat.reduceLeDiff, tyF, v4]
  refine call_ok Try.call33 (box_in w4 x b t 1 10 0 5 _ prefZ 9 rfl hB4) ?_
  rintro _ w5 ⟨rfl, hB5, hm5⟩
  rw [sweep_in (by rw [hu]; decide)] at hB5
  have h9 : inB 9 [(prefZ, newE 0 10 0 5 q)] prefZ = true := by rw [in_one, hu]; rfl
  rw [h9]
  have v5 := ((hm4.trans hm5).blk j2 hpn).all_eq 8 rfl
  simp (config := {maxSteps := 1000000}) only [↓zvN, zvU, ↓up_apply, ↓hv_apply, ↓upO_some, ↓upO_none, ↓ev_tmp, ↓ev_const, ↓ev_func, ↓ev_global, init, Nat.reduceEqDiff, Nat.reduceAdd, Nat.reduceMul, Nat.reduceSub, ↓reduceIte, Int.reduceEq, Int.reduceNe, Nat.reduceLeDiff, one, Value.cells, Int.reduceLE, Int.reduceLT, Int.reduceToNat, add_mk, reduceCtorEq, List.mem_range'_1, true_and, and_true, and_false, false_and, Nat.reduceLT, Nat.reduceLeDiff, tyF, v5]
  refine call_ok Try.call33 (box_in w5 x b t 1 10 0 5 _ prefZ 10 rfl hB5) ?_
  rintro _ w6 ⟨rfl, hB6, hm6⟩
  have h10 : inB 10 [(prefZ, newE 0 10 0 5 q)] prefZ = false := by rw [in_one, hu]; rfl
  rw [h10]
  simp (config := {maxSteps := 1000000}) only [↓zvN, zvU, ↓up_apply, ↓hv_apply, ↓upO_some, ↓upO_none, ↓ev_tmp, ↓ev_const, ↓ev_func, ↓ev_global, init, Nat.reduceEqDiff, Nat.reduceAdd, Nat.reduceMul, Nat.reduceSub, ↓reduceIte, Int.reduceEq, Int.reduceNe, Nat.reduceLeDiff, one, Value.cells, Int.reduceLE, Int.reduceLT, Int.reduceToNat, add_mk, reduceCtorEq, List.mem_range'_1, true_and, and_true, and_false, false_and, Nat.reduceLT, Nat.reduceLeDiff, tyF]
  exact ⟨rfl, two_more hM3 ((hm4.trans hm5).trans hm6) hb ht⟩
end Go.Proofs.Ytimhcjakpdebjaa
