/-
  Layer 22: BoxPlays, where the box is as it should be.
-/
import Derived.Test.YtimhcjakpdebjaaLaw22I
namespace Go.Proofs.Ytimhcjakpdebjaa
open Go Go.RowKit Go.Proofs.RV
set_option linter.unusedSimpArgs false
set_option linter.unusedVariables false
set_option maxRecDepth 10000
set_option maxHeartbeats 4000000
theorem BoxW.len64 {w : World} {x b t room : Nat} {term rate burst : Int} {L : BoxL} (h : BoxW w x b t room term rate burst L) : L.length ≤ 64 := by
  have := h.tab.le
  have := h.room_le
  simp at *
  omega
theorem PlayR.more {w w' : World} {x b t room : Nat} {term rate burst : Int} {d : Nat} {L : BoxL} (h : PlayR w x b t room term rate burst d L) (hm : More w w') : PlayR w' x b t room term rate burst d L := by
  obtain ⟨A, c, h1, h2, h3⟩ := h.doc
  exact ⟨h.box.more hm, h.tok, h.far, A, c, h1.more hm, h2.more hm, h3⟩
theorem PlayR.dlt {w : World} {x b t room : Nat} {term rate burst : Int} {d : Nat} {L : BoxL} (h : PlayR w x b t room term rate burst d L) : d < w.heap.size := by
  obtain ⟨A, c, h1, h2, h3⟩ := h.doc
  exact h1.lt
theorem mem_sweepL {now : Int} {L : BoxL} {e : PrefM × BoxE} (h : e ∈ sweepL now L) : e ∈ L := (List.mem_filter.1 h).1
theorem mem_delB {L : BoxL} {p : PrefM} {e : PrefM × BoxE} (h : e ∈ delL L p) : e ∈ L := (List.mem_filter.1 h).1
theorem mem_takeB {L : BoxL} {p : PrefM} {now n : Int} {e : PrefM × BoxE} (h : e ∈ takeL L p now n) : ∃ e' ∈ L, e.2.q = e'.2.q := by
  obtain ⟨d, hd, rfl⟩ := List.mem_map.1 h
  refine ⟨d, hd, ?_⟩
  split <;> rfl
theorem mem_putB {now : Int} {L : BoxL} {room : Nat} {p : PrefM} {v : BoxE} {e : PrefM × BoxE} (h : e ∈ putB now L room p v) : e ∈ L ∨ e.2 = v := by
  unfold putB at h
  split at h
  · exact .inl (mem_sweepL h)
  · split at h
    · obtain ⟨a, u⟩ := e
      rcases mem_putL.1 h with ⟨_, h3⟩ | ⟨_, h3⟩
      · exact .inr h3
      · exact .inl (mem_sweepL h3)
    · exact .inl (mem_sweepL h)
theorem FarB.putB {x b t : Nat} {L : BoxL} {k : Nat} (h : FarB x b t L k) {now : Int} {room : Nat} {p : PrefM} {v : BoxE} (hq : v.q ≠ k) : FarB x b t (putB now L room p v) k := by
  refine ⟨h.1, h.2.1, fun e he => ?_⟩
  rcases mem_putB he with h1 | h1
  · exact h.2.2 e h1
  · rw [h1]; exact hq
theorem FarB.takeL {x b t : Nat} {L : BoxL} {k : Nat} (h : FarB x b t L k) {p : PrefM} {now n : Int} : FarB x b t (takeL L p now n) k := by
  refine ⟨h.1, h.2.1, fun e he => ?_⟩
  obtain ⟨d, hd, h1⟩ := mem_takeB he
  rw [h1]
  exact h.2.2 d hd
/-- where the loop stands -/
def PlaysJ (l : List Act22) (r : Nat) (u ra bu : Int) (x b t d : Nat) (w : World) (v96 : Value) (w' : World) : Prop :=
  ∃ (k : Nat) (L : BoxL), v96 = .int .i64 k ∧ k ≤ l.length ∧ PlayR w' x b t r u ra bu d L ∧ (∀ e ∈ L, w.heap.size ≤ e.2.q) ∧ More w w'
theorem box_plays_in (w : World) (r0 u ra bu : Int) (A0 : Option Addr) (l : List Act22) (c0 : Nat) (hA0 : Cs w A0 (l.flatMap Act22.cells)) (hO : ∀ a ∈ l, a.Fit) (hl : l.length ≤ 100) (hok0 : boxOk r0 u ra bu) :
    Ret Try.prog 9 #[.int .i64 r0, .int .i64 u, .int .i64 ra, .int .i64 bu, .slice A0 l.length c0] w fun v w' => v = .bool true ∧ More w w' := by
  obtain ⟨r, rfl⟩ : ∃ r : Nat, r0 = (r : Int) := ⟨r0.toNat, by have := hok0.1.1; omega⟩
  have hok := hok0
  clear hok0
  have h100 : ¬ (100 : Int) < (l.length : Int) := by omega
  refine ret_of Try.func9 rfl (by kernel_rfl) (Nat.le_of_ble_eq_true (by kernel_rfl)) ?_
  simp (config := {maxSteps := 1000000, implicitDefEqProofs := false}) only [↓zvN, zvU, ↓up_apply, ↓hv_apply, ↓upO_some, ↓upO_none, ↓ev_tmp, ↓ev_const, ↓ev_func, ↓ev_global, init, Nat.reduceEqDiff, Nat.reduceAdd, Nat.reduceMul, Nat.reduceSub, ↓reduceIte, Int.reduceEq, Int.reduceNe, Nat.reduceLeDiff, one, Value.cells, Int.reduceLE, Int.reduceLT, Int.reduceToNat, add_mk, reduceCtorEq, List.mem_range'_1, true_and, and_true, and_false, false_and, Nat.reduceLT, Nat.reduceLeDiff, tyF]
  refine call_ok Try.call30 (awake22 _) ?_
  rintro _ w1 ⟨rfl, hm1⟩
  have hlens : ∀ a ∈ l, a.cells.length = 11 := fun a ha => Act22.len (hO a ha)
  simp (config := {maxSteps := 1000000, implicitDefEqProofs := false}) only [↓zvN, zvU, ↓up_apply, ↓hv_apply, ↓upO_some, ↓upO_none, ↓ev_tmp, ↓ev_const, ↓ev_func, ↓ev_global, init, Nat.reduceEqDiff, Nat.reduceAdd, Nat.reduceMul, Nat.reduceSub, ↓reduceIte, Int.reduceEq, Int.reduceNe, Nat.reduceLeDiff, one, Value.cells, Int.reduceLE, Int.reduceLT, Int.reduceToNat, add_mk, reduceCtorEq, List.mem_range'_1, true_and, and_true, and_false, false_and, Nat.reduceLT, Nat.reduceLeDiff, tyF, h100]
  refine call_ok Try.call31 (box_newW w1 r u ra bu hok) ?_
  rintro _ w2 ⟨x, b, t, rfl, hx, hb, htt, hB2, hm2⟩
  have hm12 := hm1.trans hm2
  have hsz := hm1.size
  have o1 : ¬ (r : Int) < 1 := by have := hok.1.1; omega
  have o2 : ¬ (64 : Int) < (r : Int) := by have := hok.1.2; omega
  have o3 : ¬ u < 1 := by have := hok.2.1.1; omega
  have o4 : ¬ (4611686018427387903 : Int) < u := by have := hok.2.1.2; omega
  have ht := hok.2.2
  unfold tokOk at ht
  have o5 : ¬ ra < 0 := by omega
  have o6 : ¬ (1073741824 : Int) < ra := by omega
  have o7 : ¬ bu < 1 := by omega
  have o8 : ¬ (1073741824 : Int) < bu := by omega
  simp (config := {maxSteps := 1000000, implicitDefEqProofs := false}) only [↓zvN, zvU, ↓up_apply, ↓hv_apply, ↓upO_some, ↓upO_none, ↓ev_tmp, ↓ev_const, ↓ev_func, ↓ev_global, init, Nat.reduceEqDiff, Nat.reduceAdd, Nat.reduceMul, Nat.reduceSub, ↓reduceIte, Int.reduceEq, Int.reduceNe, Nat.reduceLeDiff, one, Value.cells, Int.reduceLE, Int.reduceLT, Int.reduceToNat, add_mk, reduceCtorEq, List.mem_range'_1, true_and, and_true, and_false, false_and, Nat.reduceLT, Nat.reduceLeDiff, tyF, o1, o2, o3, o4, o5, o6, o7, o8]
  have bd := build_of (P := Try.prog) (T := 77) (parts := #[(1, .int .i64 (r : Int)), (2, .int .i64 u), (3, .int .i64 ra), (4, .int .i64 bu)]) (rbox none 0 0 r u ra bu) (by kernel_rfl) zerRB (by kernel_rfl) w2
  rw [bd]
  simp (config := {maxSteps := 1000000, implicitDefEqProofs := false}) only [↓zvN, zvU, ↓up_apply, ↓hv_apply, ↓upO_some, ↓upO_none, ↓ev_tmp, ↓ev_const, ↓ev_func, ↓ev_global, init, Nat.reduceEqDiff, Nat.reduceAdd, Nat.reduceMul, Nat.reduceSub, ↓reduceIte, Int.reduceEq, Int.reduceNe, Nat.reduceLeDiff, one, Value.cells, Int.reduceLE, Int.reduceLT, Int.reduceToNat, add_mk, reduceCtorEq, List.mem_range'_1, true_and, and_true, and_false, false_and, Nat.reduceLT, Nat.reduceLeDiff, tyF, zerRB]
  have hm3 := more_alloc w2 (.cells (rbox none 0 0 0 0 0 0).toArray 77)
  have hb3 := Blk.new w2 77 (rbox none 0 0 0 0 0 0).toArray
  obtain ⟨w3, hw3⟩ : ∃ w3, w2.alloc (.cells (rbox none 0 0 0 0 0 0).toArray 77) = w3 := ⟨_, rfl⟩
  obtain ⟨d, hd⟩ : ∃ d, w2.heap.size = d := ⟨_, rfl⟩
  have hd0 : w.heap.size ≤ d := by have := hm12.size; omega
  have hfd : FarB x b t [] d := by rw [← hd]; exact FarB.new hB2 (Nat.le_refl _)
  rw [hw3] at hm3 hb3 ⊢
  rw [hd] at hb3 ⊢
  clear hw3
  refine st_all hb3 rfl rfl (rbox_one _ _ _ _ _ _ _) fun w4 k1 k2 => ?_
  rw [s2_undef]
  rw [List.toList_toArray] at k2
  have hm4 : More w w4 := k1.below (hm12.trans hm3) hd0
  have hB4 : BoxW w4 x b t r u ra bu [] := (hB2.more hm3).mod (Mod.of_wr (S := fun q => q = d) k1 rfl) (fun h => hfd.2.1 h.symm) (fun q hq h => by
    rcases hq with h1 | ⟨e, he, _⟩
    · exact hfd.1 (by rw [← h]; exact h1)
    · cases he)
  have hP4 : PlayR w4 x b t r u ra bu d [] := ⟨hB4, (fun e he => (by cases he)), hfd, none, 0, k2, Cs.nil _ _, (fun a ha => (by cases ha))⟩
  simp (config := {maxSteps := 1000000, implicitDefEqProofs := false}) only [↓zvN, zvU, ↓up_apply, ↓hv_apply, ↓upO_some, ↓upO_none, ↓ev_tmp, ↓ev_const, ↓ev_func, ↓ev_global, init, Nat.reduceEqDiff, Nat.reduceAdd, Nat.reduceMul, Nat.reduceSub, ↓reduceIte, Int.reduceEq, Int.reduceNe, Nat.reduceLeDiff, one, Value.cells, Int.reduceLE, Int.reduceLT, Int.reduceToNat, add_mk, reduceCtorEq, List.mem_range'_1, true_and, and_true, and_false, false_and, Nat.reduceLT, Nat.reduceLeDiff, tyF]
  refine loop_p (12 :: 14 :: 15 :: 16 :: 17 :: 18 :: List.range' 96 117) (fun e w' => PlaysJ l r u ra bu x b t d w (e 96) w') (fun e _ => l.length - (numOf (e 96)).toNat) ?_ ?_
  · exact ⟨0, [], by simp only [hv_apply, up_apply, upO_some, upO_none, init, List.mem_cons, List.mem_range'_1, true_and, and_true, and_false, false_and, Nat.reduceLT, Nat.reduceLeDiff, Nat.reduceAdd, true_or, or_true, if_true, if_false, ↓reduceIte, Nat.reduceEqDiff, false_or, or_false, List.not_mem_nil, List.getElem?_cons_zero, List.getElem?_cons_succ, Option.getD_some] <;> rfl, by omega, hP4, (fun e he => by cases he), hm4⟩
  have hxw : w.heap.size ≤ x ∧ w.heap.size ≤ b ∧ w.heap.size ≤ t := by omega
  clear hm4 hP4 k2 hb3 hm3 hB2 hfd hd
  rintro v w3 ⟨k, L, h96, hk, hP3, hql, hm3⟩
  simp only [hv_apply, up_apply, upO_some, upO_none, init, List.mem_cons, List.mem_range'_1, true_and, and_true, and_false, false_and, Nat.reduceLT, Nat.reduceLeDiff, Nat.reduceAdd, true_or, or_true, if_true, if_false, ↓reduceIte, Nat.reduceEqDiff, false_or, or_false, List.not_mem_nil, List.getElem?_cons_zero, List.getElem?_cons_succ, Option.getD_some] at h96
  have ek : IntKind.i64.wrap ((k : Int) + 1) = ((k + 1 : Nat) : Int) := w64 (by omega) (by omega)
  simp (config := {maxSteps := 1000000, implicitDefEqProofs := false}) only [↓zvN, zvU, ↓up_apply, ↓hv_apply, ↓upO_some, ↓upO_none, ↓ev_tmp, ↓ev_const, ↓ev_func, ↓ev_global, init, Nat.reduceEqDiff, Nat.reduceAdd, Nat.reduceMul, Nat.reduceSub, ↓reduceIte, Int.reduceEq, Int.reduceNe, Nat.reduceLeDiff, one, Value.cells, Int.reduceLE, Int.reduceLT, Int.reduceToNat, add_mk, reduceCtorEq, List.mem_range'_1, true_and, and_true, and_false, false_and, Nat.reduceLT, Nat.reduceLeDiff, tyF, h96]
  refine ⟨fun h9 => ?_, fun h9 => ?_⟩
  rotate_left
  · have hB3 := hP3.box
    obtain ⟨Ad, cd, vd, rowsd, fard⟩ := hP3.doc
    have hFl : ∀ q, q = d → q < w3.heap.size := by
      rintro q rfl
      exact hP3.dlt
    try simp (config := {maxSteps := 1000000, implicitDefEqProofs := false}) only [↓zvN, zvU, ↓up_apply, ↓hv_apply, ↓upO_some, ↓upO_none, ↓ev_tmp, ↓ev_const, ↓ev_func, ↓ev_global, init, Nat.reduceEqDiff, Nat.reduceAdd, Nat.reduceMul, Nat.reduceSub, ↓reduceIte, Int.reduceEq, Int.reduceNe, Nat.reduceLeDiff, one, Value.cells, Int.reduceLE, Int.reduceLT, Int.reduceToNat, add_mk, reduceCtorEq, List.mem_range'_1, true_and, and_true, and_false, false_and, Nat.reduceLT, Nat.reduceLeDiff, tyF]
    refine draw_line 0 (KeepF 0 fun q => q = d) [0, 1, 2, 1, 1, 0] [[], [0], [], [0, 1, 2], [0, 1, 2, 3], [0, 1, 2, 3, 4]] mixed (by kernel_rfl) (by kernel_rfl) (KeepF.refl _ _ _) (fun w' h => KeepF.of_more h (by omega) hFl) (fun w' h => h.1) ?_
    intro w6 hm6
    have hk6 : KeepF 0 (fun q => q = d) w3 w6 := KeepF.of_more hm6 (by omega) hFl
    simp (config := {maxSteps := 1000000, implicitDefEqProofs := false}) only [↓zvN, zvU, ↓zqD, ↓sk_nil, ↓sk_cons, ↓sk_guard, ↓sk_zero, ↓sk_one, ↓sk_two, ↓up_apply, ↓hv_apply, ↓upO_some, ↓upO_none, ↓ev_tmp, ↓ev_const, ↓ev_func, ↓ev_global, init, Nat.reduceEqDiff, Nat.reduceAdd, Nat.reduceMul, Nat.reduceSub, ↓reduceIte, Int.reduceEq, Int.reduceNe, Nat.reduceLeDiff, one, Value.cells, Int.reduceLE, Int.reduceLT, Int.reduceToNat, add_mk, reduceCtorEq, List.mem_range'_1, true_and, and_true, and_false, false_and, Nat.reduceLT, Nat.reduceLeDiff, tyF]
    refine call_ok Try.call36 (box_all w6 x b t r u ra bu L 0 (hB3.more hm6)) ?_
    rintro _ w7 ⟨A7, c7, rfl, hA7, hg7, hB7, hm7⟩
    have hm07 : More w w7 := two_more (hm3.trans hm6) hm7 hxw.2.1 hxw.2.2
    have hk7 := hk6.next hm7 (fun q hq => by rw [hq]; exact hP3.far.1) (fun q hq => by omega) (fun q hq => by have := hFl q hq; have := hm6.size; omega) (by omega)
    have rows7 := hm7.cs (rowsd.more hm6) (fun x hx => (fard x hx).1)
    obtain ⟨S, hS⟩ : ∃ S, sweepL 0 L = S := ⟨_, rfl⟩
    have hkl : S.length = (keysM S).length := by simp [keysM]
    rw [hS] at hA7 hB7 ⊢
    rw [hkl]
    simp (config := {maxSteps := 1000000, implicitDefEqProofs := false}) only [↓zvN, zvU, ↓zqD, ↓sk_nil, ↓sk_cons, ↓sk_guard, ↓sk_zero, ↓sk_one, ↓sk_two, ↓up_apply, ↓hv_apply, ↓upO_some, ↓upO_none, ↓ev_tmp, ↓ev_const, ↓ev_func, ↓ev_global, init, Nat.reduceEqDiff, Nat.reduceAdd, Nat.reduceMul, Nat.reduceSub, ↓reduceIte, Int.reduceEq, Int.reduceNe, Nat.reduceLeDiff, one, Value.cells, Int.reduceLE, Int.reduceLT, Int.reduceToNat, add_mk, reduceCtorEq, List.mem_range'_1, true_and, and_true, and_false, false_and, Nat.reduceLT, Nat.reduceLeDiff, tyF]
    refine ⟨hk7, ?_⟩
    refine read_ok (.agg (rbox Ad L.length cd r u ra bu).toArray) rfl (fun wr hkr => ?_) ?_
    · simp (config := {maxSteps := 1000000, implicitDefEqProofs := false}) only [↓zvN, zvU, ↓up_apply, ↓hv_apply, ↓upO_some, ↓upO_none, ↓ev_tmp, ↓ev_const, ↓ev_func, ↓ev_global, init, Nat.reduceEqDiff, Nat.reduceAdd, Nat.reduceMul, Nat.reduceSub, ↓reduceIte, Int.reduceEq, Int.reduceNe, Nat.reduceLeDiff, one, Value.cells, Int.reduceLE, Int.reduceLT, Int.reduceToNat, add_mk, reduceCtorEq, List.mem_range'_1, true_and, and_true, and_false, false_and, Nat.reduceLT, Nat.reduceLeDiff, tyF, (hkr.blk rfl vd).all_eq 5 rfl]
    simp (config := {maxSteps := 1000000, implicitDefEqProofs := false}) only [↓zvN, zvU, ↓zqD, ↓sk_nil, ↓sk_cons, ↓sk_guard, ↓sk_zero, ↓sk_one, ↓sk_two, ↓up_apply, ↓hv_apply, ↓upO_some, ↓upO_none, ↓ev_tmp, ↓ev_const, ↓ev_func, ↓ev_global, init, Nat.reduceEqDiff, Nat.reduceAdd, Nat.reduceMul, Nat.reduceSub, ↓reduceIte, Int.reduceEq, Int.reduceNe, Nat.reduceLeDiff, one, Value.cells, Int.reduceLE, Int.reduceLT, Int.reduceToNat, add_mk, reduceCtorEq, List.mem_range'_1, true_and, and_true, and_false, false_and, Nat.reduceLT, Nat.reduceLeDiff, tyF]
    refine call_ok Try.call42 (ref_allB w7 Ad L cd r u ra bu 0 rows7 hB3.plen (by have := hB3.len64; omega)) ?_
    rintro _ w8 ⟨A8, c8, rfl, hA8, hm8⟩
    have hk8 := hk7.more hm8 (fun q hq => by have := hFl q hq; have := hm6.size; have := hm7.size; omega) (by omega)
    rw [hS] at hA8 ⊢
    rw [hkl]
    have hpk : ∀ p ∈ keysM S, p.addr.length = 7 := fun p hp => by
      obtain ⟨e, he⟩ := mem_keys.1 hp
      exact hB7.plen _ he
    have hSl : (keysM S).length ≤ 1000000 := by rw [← hkl]; have := hB7.len64; omega
    simp (config := {maxSteps := 1000000, implicitDefEqProofs := false}) only [↓zvN, zvU, ↓zqD, ↓sk_nil, ↓sk_cons, ↓sk_guard, ↓sk_zero, ↓sk_one, ↓sk_two, ↓up_apply, ↓hv_apply, ↓upO_some, ↓upO_none, ↓ev_tmp, ↓ev_const, ↓ev_func, ↓ev_global, init, Nat.reduceEqDiff, Nat.reduceAdd, Nat.reduceMul, Nat.reduceSub, ↓reduceIte, Int.reduceEq, Int.reduceNe, Nat.reduceLeDiff, one, Value.cells, Int.reduceLE, Int.reduceLT, Int.reduceToNat, add_mk, reduceCtorEq, List.mem_range'_1, true_and, and_true, and_false, false_and, Nat.reduceLT, Nat.reduceLeDiff, tyF]
    refine ⟨hk8, ?_⟩
    refine call_ok Try.call22 (ref_same w8 A7 A8 (keysM S) (keysM S) c7 c8 (hA7.more hm8) hA8 hpk hpk hSl hSl) ?_
    rintro _ w9 ⟨rfl, hm9⟩
    have hk9 := hk8.more hm9 (fun q hq => by have := hFl q hq; have := hm6.size; have := hm7.size; have := hm8.size; omega) (by omega)
    rw [show decide (keysM S = keysM S) = true from decide_eq_true rfl]
    simp (config := {maxSteps := 1000000, implicitDefEqProofs := false}) only [↓zvN, zvU, ↓zqD, ↓sk_nil, ↓sk_cons, ↓sk_guard, ↓sk_zero, ↓sk_one, ↓sk_two, ↓up_apply, ↓hv_apply, ↓upO_some, ↓upO_none, ↓ev_tmp, ↓ev_const, ↓ev_func, ↓ev_global, init, Nat.reduceEqDiff, Nat.reduceAdd, Nat.reduceMul, Nat.reduceSub, ↓reduceIte, Int.reduceEq, Int.reduceNe, Nat.reduceLeDiff, one, Value.cells, Int.reduceLE, Int.reduceLT, Int.reduceToNat, add_mk, reduceCtorEq, List.mem_range'_1, true_and, and_true, and_false, false_and, Nat.reduceLT, Nat.reduceLeDiff, tyF]
    refine ⟨hk9, ?_⟩
    have hm09 := (hm07.trans hm8).trans hm9
    try simp (config := {maxSteps := 1000000, implicitDefEqProofs := false}) only [↓zvN, zvU, ↓zqD, ↓sk_nil, ↓sk_cons, ↓sk_guard, ↓sk_zero, ↓sk_one, ↓sk_two, ↓up_apply, ↓hv_apply, ↓upO_some, ↓upO_none, ↓ev_tmp, ↓ev_const, ↓ev_func, ↓ev_global, init, Nat.reduceEqDiff, Nat.reduceAdd, Nat.reduceMul, Nat.reduceSub, ↓reduceIte, Int.reduceEq, Int.reduceNe, Nat.reduceLeDiff, one, Value.cells, Int.reduceLE, Int.reduceLT, Int.reduceToNat, add_mk, reduceCtorEq, List.mem_range'_1, true_and, and_true, and_false, false_and, Nat.reduceLT, Nat.reduceLeDiff, tyF]

    try simp (config := {maxSteps := 1000000, implicitDefEqProofs := false}) only [↓zvN, zvU, ↓up_apply, ↓hv_apply, ↓upO_some, ↓upO_none, ↓ev_tmp, ↓ev_const, ↓ev_func, ↓ev_global, init, Nat.reduceEqDiff, Nat.reduceAdd, Nat.reduceMul, Nat.reduceSub, ↓reduceIte, Int.reduceEq, Int.reduceNe, Nat.reduceLeDiff, one, Value.cells, Int.reduceLE, Int.reduceLT, Int.reduceToNat, add_mk, reduceCtorEq, List.mem_range'_1, true_and, and_true, and_false, false_and, Nat.reduceLT, Nat.reduceLeDiff, tyF]
    exact ⟨rfl, hm09⟩
  obtain ⟨a, ha⟩ := row_nat l k (by omega)
  obtain ⟨ad, rfl⟩ := hA0.some_of (by rw [row_len l hlens]; omega)
  have haf := hO a (List.mem_of_getElem? ha)
  have rd := (hA0.more hm3).rowEq hlens ha
  have g0 : (0 : Int) ≤ (k : Int) := by omega
  have tf : (true == false) = false := rfl
  have ft : (false == true) = false := rfl
  have tt : (true == true) = true := rfl
  have ff : (false == false) = true := rfl
  simp (config := {maxSteps := 1000000, implicitDefEqProofs := false}) only [↓zvN, zvU, ↓up_apply, ↓hv_apply, ↓upO_some, ↓upO_none, ↓ev_tmp, ↓ev_const, ↓ev_func, ↓ev_global, init, Nat.reduceEqDiff, Nat.reduceAdd, Nat.reduceMul, Nat.reduceSub, ↓reduceIte, Int.reduceEq, Int.reduceNe, Nat.reduceLeDiff, one, Value.cells, Int.reduceLE, Int.reduceLT, Int.reduceToNat, add_mk, reduceCtorEq, List.mem_range'_1, true_and, and_true, and_false, false_and, Nat.reduceLT, Nat.reduceLeDiff, tyF, h96, g0, h9, rd, Int.toNat_natCast, zerAct22]
  have hm4 := more_alloc w3 (.cells (Act22.mk 0 prefZ 0 0).cells.toArray 71)
  have hb4 := Blk.new w3 71 (Act22.mk 0 prefZ 0 0).cells.toArray
  obtain ⟨w4, hw4⟩ : ∃ w4, w3.alloc (.cells (Act22.mk 0 prefZ 0 0).cells.toArray 71) = w4 := ⟨_, rfl⟩
  rw [hw4] at hm4 hb4 ⊢
  clear hw4
  refine st_all hb4 (by simpa using Act22.len haf) rfl (by simpa using Act22.one a) fun w5 j1 j2 => ?_
  rw [s2_undef]
  rw [List.toList_toArray] at j2
  have hm5 : More w3 w5 := more_but hm4 (But.of_wr j1) (Nat.le_refl _)
  have hP5 := hP3.more hm5
  have hB5 := hP5.box
  have hPO : POk L := hB5.plen
  have hsrt := hB5.sorted
  have hl64 : L.length ≤ 1000000 := by have := hB5.len64; omega
  have hab3 : ∀ k, owns b t L k → k < w3.heap.size := by rintro k ((h | h) | ⟨e, he, h⟩); rw [h]; exact hP3.box.tab.lt.1; rw [h]; exact hP3.box.tab.lt.2; rw [h]; exact (hP3.box.own.tok e he).1.lt
  have hdlt := hP3.dlt
  have hxlt := hP3.box.box.lt
  have hw3 := hm3.size
  obtain ⟨ab, hab⟩ : ∃ q, w3.heap.size = q := ⟨_, rfl⟩
  rw [hab] at j2 hab3 hdlt hxlt hw3 ⊢
  have hno : ¬ owns b t L ab := fun h => by have := hab3 _ h; omega
  have hno2 : ¬ two b t ab := fun h => hno (.inl h)
  have hdab : ab ≠ d := by omega
  have h8 : a.p.cells.length = 8 := by simp [PrefM.cells, haf.p]
  have d0 : ∀ {w' : World}, Blk w' ab 71 a.cells → w'.cell? ⟨ab, 0, none⟩ = some (.int .u8 a.kind) := fun h => by rw [h.cell]; rfl
  have d1 : ∀ {w' : World}, Blk w' ab 71 a.cells → ∀ K : Value → Prop, ldRow 8 ⟨ab, 1, none⟩ w' K = K (.agg a.p.cells.toArray) := fun h K => by
    rw [h.row_eq 1 8 (by rw [Act22.len haf]; omega)]
    congr 2
    simp only [Act22.cells, List.drop_succ_cons, List.drop_zero]
    rw [List.take_append_of_le_length (by omega), List.take_of_length_le (by omega)]
  have d9 : ∀ {w' : World}, Blk w' ab 71 a.cells → w'.cell? ⟨ab, 9, none⟩ = some (.int .i64 a.now) := fun h => by
    rw [h.cell, Act22.cells, List.getElem?_cons_succ, List.getElem?_append_right (by omega), h8]
    rfl
  have d10 : ∀ {w' : World}, Blk w' ab 71 a.cells → w'.cell? ⟨ab, 10, none⟩ = some (.int .i64 a.n) := fun h => by
    rw [h.cell, Act22.cells, List.getElem?_cons_succ, List.getElem?_append_right (by omega), h8]
    rfl
  have hkr : 0 ≤ Int.tmod a.kind 7 ∧ Int.tmod a.kind 7 < 7 := by
    have h0 := haf.k0
    rw [Int.tmod_eq_emod_of_nonneg h0]
    exact ⟨by omega, by omega⟩
  obtain ⟨kk, hkk⟩ : ∃ kk, Int.tmod a.kind 7 = kk := ⟨_, rfl⟩
  rw [hkk] at hkr
  have wk : IntKind.u8.wrap kk = kk := wu8 (by omega) (by omega)
  have j5 := j2
  clear hm4 hb4 j1 j2 rd
  simp (config := {maxSteps := 1000000, implicitDefEqProofs := false}) only [↓zvN, zvU, ↓up_apply, ↓hv_apply, ↓upO_some, ↓upO_none, ↓ev_tmp, ↓ev_const, ↓ev_func, ↓ev_global, init, Nat.reduceEqDiff, Nat.reduceAdd, Nat.reduceMul, Nat.reduceSub, ↓reduceIte, Int.reduceEq, Int.reduceNe, Nat.reduceLeDiff, one, Value.cells, Int.reduceLE, Int.reduceLT, Int.reduceToNat, add_mk, reduceCtorEq, List.mem_range'_1, true_and, and_true, and_false, false_and, Nat.reduceLT, Nat.reduceLeDiff, tyF, d0 j5, hkk, wk]
  have hcases : kk = 0 ∨ kk = 1 ∨ kk = 2 ∨ kk = 3 ∨ kk = 4 ∨ kk = 5 ∨ kk = 6 := by omega
  rcases hcases with rfl | rfl | rfl | rfl | rfl | rfl | rfl
  · simp (config := {maxSteps := 1000000, implicitDefEqProofs := false}) only [↓zvN, zvU, ↓up_apply, ↓hv_apply, ↓upO_some, ↓upO_none, ↓ev_tmp, ↓ev_const, ↓ev_func, ↓ev_global, init, Nat.reduceEqDiff, Nat.reduceAdd, Nat.reduceMul, Nat.reduceSub, ↓reduceIte, Int.reduceEq, Int.reduceNe, Nat.reduceLeDiff, one, Value.cells, Int.reduceLE, Int.reduceLT, Int.reduceToNat, add_mk, reduceCtorEq, List.mem_range'_1, true_and, and_true, and_false, false_and, Nat.reduceLT, Nat.reduceLeDiff, tyF, d0 j5, wk, hkk, d1 j5, d9 j5]
    refine call_ok Try.call32 (box_put w5 x b t r u ra bu L a.p a.now haf.p hB5 haf.w1) ?_
    rintro _ w7 ⟨q, hq, rfl, hB7, hm7⟩
    have hm07 : More w w7 := two_more (hm3.trans hm5) hm7 hxw.2.1 hxw.2.2
    have j7 := hm7.blk j5 hno2
    obtain ⟨A, c, hH⟩ := hP5.half hB7 (hP5.tok.put hok.2.2 _ _ _ _ _) hm7 (fun _ h => h.1) (fun k' hk' h => h.putB (by show q ≠ k'; omega))
    have v7 := hH.var.all_eq 5 rfl
    obtain ⟨cd, hcd⟩ : ∃ cd, putCode a.now L r a.p = cd := ⟨_, rfl⟩
    obtain ⟨L2, hL2⟩ : ∃ L2, putB a.now L r a.p (newE a.now u ra bu q) = L2 := ⟨_, rfl⟩
    have hrows := put_rows bu a.now L r a.p (addM a.now u) q 0 ((tok0 ra bu).take a.now 0)
    simp (config := {maxSteps := 1000000, implicitDefEqProofs := false}) only [↓zvN, zvU, ↓up_apply, ↓hv_apply, ↓upO_some, ↓upO_none, ↓ev_tmp, ↓ev_const, ↓ev_func, ↓ev_global, init, Nat.reduceEqDiff, Nat.reduceAdd, Nat.reduceMul, Nat.reduceSub, ↓reduceIte, Int.reduceEq, Int.reduceNe, Nat.reduceLeDiff, one, Value.cells, Int.reduceLE, Int.reduceLT, Int.reduceToNat, add_mk, reduceCtorEq, List.mem_range'_1, true_and, and_true, and_false, false_and, Nat.reduceLT, Nat.reduceLeDiff, tyF, v7, d1 j7, d9 j7]
    refine call_ok Try.call37 (ref_putB w7 A L c r u ra bu a.p a.now haf.p hH.rows hPO hsrt hl64 hok.2.2) ?_
    rintro _ w8 ⟨A', c', rfl, hc', hA', hg', hm8⟩
    rw [show newE a.now u ra bu 0 = ⟨addM a.now u, 0, (tok0 ra bu).take a.now 0⟩ from rfl, ← hrows.1] at hA'
    rw [show newE a.now u ra bu 0 = ⟨addM a.now u, 0, (tok0 ra bu).take a.now 0⟩ from rfl, ← hrows.2]
    rw [show (⟨addM a.now u, q, (tok0 ra bu).take a.now 0⟩ : BoxE) = newE a.now u ra bu q from rfl, hL2] at hA' ⊢
    rw [hL2] at hH
    rw [hcd]
    have hql2 : ∀ e ∈ L2, w.heap.size ≤ e.2.q := by
      intro e he
      rw [← hL2] at he
      rcases mem_putB he with h1 | h1
      · exact hql e h1
      · rw [h1]; show w.heap.size ≤ q; have := (hm3.trans hm5).size; omega
    clear hrows hL2 hcd hB7
    simp (config := {maxSteps := 1000000, implicitDefEqProofs := false}) only [↓zvN, zvU, ↓up_apply, ↓hv_apply, ↓upO_some, ↓upO_none, ↓ev_tmp, ↓ev_const, ↓ev_func, ↓ev_global, init, Nat.reduceEqDiff, Nat.reduceAdd, Nat.reduceMul, Nat.reduceSub, ↓reduceIte, Int.reduceEq, Int.reduceNe, Nat.reduceLeDiff, one, Value.cells, Int.reduceLE, Int.reduceLT, Int.reduceToNat, add_mk, reduceCtorEq, List.mem_range'_1, true_and, and_true, and_false, false_and, Nat.reduceLT, Nat.reduceLeDiff, tyF]
    refine st_all (hH.var.more hm8) rfl rfl (rbox_one _ _ _ _ _ _ _) fun w9 k1 k2 => ?_
    rw [s2_undef]
    rw [List.toList_toArray] at k2
    have hP9 := hH.close hm8 hA' hg' k1 k2
    have j9 := k1.blk (j7.more hm8) hdab
    have hm09 : More w w9 := k1.below (hm07.trans hm8) hd0
    have okok : (cd == cd) = true := beq_self_eq_true cd
    have lab := j9.lt
    simp (config := {maxSteps := 1000000, implicitDefEqProofs := false}) only [↓zvN, zvU, ↓up_apply, ↓hv_apply, ↓upO_some, ↓upO_none, ↓ev_tmp, ↓ev_const, ↓ev_func, ↓ev_global, init, Nat.reduceEqDiff, Nat.reduceAdd, Nat.reduceMul, Nat.reduceSub, ↓reduceIte, Int.reduceEq, Int.reduceNe, Nat.reduceLeDiff, one, Value.cells, Int.reduceLE, Int.reduceLT, Int.reduceToNat, add_mk, reduceCtorEq, List.mem_range'_1, true_and, and_true, and_false, false_and, Nat.reduceLT, Nat.reduceLeDiff, tyF]
    refine draw_calm mixed (by kernel_rfl) ?_
    simp (config := {maxSteps := 1000000, implicitDefEqProofs := false}) only [↓zvN, zvU, ↓zqD, ↓up_apply, ↓hv_apply, ↓upO_some, ↓upO_none, ↓ev_tmp, ↓ev_const, ↓ev_func, ↓ev_global, init, Nat.reduceEqDiff, Nat.reduceAdd, Nat.reduceMul, Nat.reduceSub, ↓reduceIte, Int.reduceEq, Int.reduceNe, Nat.reduceLeDiff, one, Value.cells, Int.reduceLE, Int.reduceLT, Int.reduceToNat, add_mk, reduceCtorEq, List.mem_range'_1, true_and, and_true, and_false, false_and, Nat.reduceLT, Nat.reduceLeDiff, tyF, okok, tt, ff, tf, ft, d0 j9, lab, wk, hkk]
    intro w10 hm10
    simp (config := {maxSteps := 1000000, implicitDefEqProofs := false}) only [↓zvN, zvU, ↓up_apply, ↓hv_apply, ↓upO_some, ↓upO_none, ↓ev_tmp, ↓ev_const, ↓ev_func, ↓ev_global, init, Nat.reduceEqDiff, Nat.reduceAdd, Nat.reduceMul, Nat.reduceSub, ↓reduceIte, Int.reduceEq, Int.reduceNe, Nat.reduceLeDiff, one, Value.cells, Int.reduceLE, Int.reduceLT, Int.reduceToNat, add_mk, reduceCtorEq, List.mem_range'_1, true_and, and_true, and_false, false_and, Nat.reduceLT, Nat.reduceLeDiff, tyF, d0 ((j9).more hm10), wk, hkk, h96, ek]
    refine ⟨⟨?_, k + 1, L2, rfl, by omega, (hP9).more hm10, hql2, (hm09).trans hm10⟩, by simp only [numOf]; omega⟩
    repeat (first | exact Same.hv _ _ _ | refine Same.hv2 (fun s hs => mem_all22 (by decide) hs) ?_ | refine Same.up (by simp) ?_)
  · simp (config := {maxSteps := 1000000, implicitDefEqProofs := false}) only [↓zvN, zvU, ↓up_apply, ↓hv_apply, ↓upO_some, ↓upO_none, ↓ev_tmp, ↓ev_const, ↓ev_func, ↓ev_global, init, Nat.reduceEqDiff, Nat.reduceAdd, Nat.reduceMul, Nat.reduceSub, ↓reduceIte, Int.reduceEq, Int.reduceNe, Nat.reduceLeDiff, one, Value.cells, Int.reduceLE, Int.reduceLT, Int.reduceToNat, add_mk, reduceCtorEq, List.mem_range'_1, true_and, and_true, and_false, false_and, Nat.reduceLT, Nat.reduceLeDiff, tyF, d0 j5, wk, hkk, d1 j5, d9 j5]
    refine call_ok Try.call32 (box_put w5 x b t r u ra bu L a.p a.now haf.p hB5 haf.w1) ?_
    rintro _ w7 ⟨q, hq, rfl, hB7, hm7⟩
    have hm07 : More w w7 := two_more (hm3.trans hm5) hm7 hxw.2.1 hxw.2.2
    have j7 := hm7.blk j5 hno2
    obtain ⟨A, c, hH⟩ := hP5.half hB7 (hP5.tok.put hok.2.2 _ _ _ _ _) hm7 (fun _ h => h.1) (fun k' hk' h => h.putB (by show q ≠ k'; omega))
    have v7 := hH.var.all_eq 5 rfl
    obtain ⟨cd, hcd⟩ : ∃ cd, putCode a.now L r a.p = cd := ⟨_, rfl⟩
    obtain ⟨L2, hL2⟩ : ∃ L2, putB a.now L r a.p (newE a.now u ra bu q) = L2 := ⟨_, rfl⟩
    have hrows := put_rows bu a.now L r a.p (addM a.now u) q 0 ((tok0 ra bu).take a.now 0)
    simp (config := {maxSteps := 1000000, implicitDefEqProofs := false}) only [↓zvN, zvU, ↓up_apply, ↓hv_apply, ↓upO_some, ↓upO_none, ↓ev_tmp, ↓ev_const, ↓ev_func, ↓ev_global, init, Nat.reduceEqDiff, Nat.reduceAdd, Nat.reduceMul, Nat.reduceSub, ↓reduceIte, Int.reduceEq, Int.reduceNe, Nat.reduceLeDiff, one, Value.cells, Int.reduceLE, Int.reduceLT, Int.reduceToNat, add_mk, reduceCtorEq, List.mem_range'_1, true_and, and_true, and_false, false_and, Nat.reduceLT, Nat.reduceLeDiff, tyF, v7, d1 j7, d9 j7]
    refine call_ok Try.call37 (ref_putB w7 A L c r u ra bu a.p a.now haf.p hH.rows hPO hsrt hl64 hok.2.2) ?_
    rintro _ w8 ⟨A', c', rfl, hc', hA', hg', hm8⟩
    rw [show newE a.now u ra bu 0 = ⟨addM a.now u, 0, (tok0 ra bu).take a.now 0⟩ from rfl, ← hrows.1] at hA'
    rw [show newE a.now u ra bu 0 = ⟨addM a.now u, 0, (tok0 ra bu).take a.now 0⟩ from rfl, ← hrows.2]
    rw [show (⟨addM a.now u, q, (tok0 ra bu).take a.now 0⟩ : BoxE) = newE a.now u ra bu q from rfl, hL2] at hA' ⊢
    rw [hL2] at hH
    rw [hcd]
    have hql2 : ∀ e ∈ L2, w.heap.size ≤ e.2.q := by
      intro e he
      rw [← hL2] at he
      rcases mem_putB he with h1 | h1
      · exact hql e h1
      · rw [h1]; show w.heap.size ≤ q; have := (hm3.trans hm5).size; omega
    clear hrows hL2 hcd hB7
    simp (config := {maxSteps := 1000000, implicitDefEqProofs := false}) only [↓zvN, zvU, ↓up_apply, ↓hv_apply, ↓upO_some, ↓upO_none, ↓ev_tmp, ↓ev_const, ↓ev_func, ↓ev_global, init, Nat.reduceEqDiff, Nat.reduceAdd, Nat.reduceMul, Nat.reduceSub, ↓reduceIte, Int.reduceEq, Int.reduceNe, Nat.reduceLeDiff, one, Value.cells, Int.reduceLE, Int.reduceLT, Int.reduceToNat, add_mk, reduceCtorEq, List.mem_range'_1, true_and, and_true, and_false, false_and, Nat.reduceLT, Nat.reduceLeDiff, tyF]
    refine st_all (hH.var.more hm8) rfl rfl (rbox_one _ _ _ _ _ _ _) fun w9 k1 k2 => ?_
    rw [s2_undef]
    rw [List.toList_toArray] at k2
    have hP9 := hH.close hm8 hA' hg' k1 k2
    have j9 := k1.blk (j7.more hm8) hdab
    have hm09 : More w w9 := k1.below (hm07.trans hm8) hd0
    have okok : (cd == cd) = true := beq_self_eq_true cd
    have lab := j9.lt
    simp (config := {maxSteps := 1000000, implicitDefEqProofs := false}) only [↓zvN, zvU, ↓up_apply, ↓hv_apply, ↓upO_some, ↓upO_none, ↓ev_tmp, ↓ev_const, ↓ev_func, ↓ev_global, init, Nat.reduceEqDiff, Nat.reduceAdd, Nat.reduceMul, Nat.reduceSub, ↓reduceIte, Int.reduceEq, Int.reduceNe, Nat.reduceLeDiff, one, Value.cells, Int.reduceLE, Int.reduceLT, Int.reduceToNat, add_mk, reduceCtorEq, List.mem_range'_1, true_and, and_true, and_false, false_and, Nat.reduceLT, Nat.reduceLeDiff, tyF]
    refine draw_calm mixed (by kernel_rfl) ?_
    simp (config := {maxSteps := 1000000, implicitDefEqProofs := false}) only [↓zvN, zvU, ↓zqD, ↓up_apply, ↓hv_apply, ↓upO_some, ↓upO_none, ↓ev_tmp, ↓ev_const, ↓ev_func, ↓ev_global, init, Nat.reduceEqDiff, Nat.reduceAdd, Nat.reduceMul, Nat.reduceSub, ↓reduceIte, Int.reduceEq, Int.reduceNe, Nat.reduceLeDiff, one, Value.cells, Int.reduceLE, Int.reduceLT, Int.reduceToNat, add_mk, reduceCtorEq, List.mem_range'_1, true_and, and_true, and_false, false_and, Nat.reduceLT, Nat.reduceLeDiff, tyF, okok, tt, ff, tf, ft, d0 j9, lab, wk, hkk]
    intro w10 hm10
    simp (config := {maxSteps := 1000000, implicitDefEqProofs := false}) only [↓zvN, zvU, ↓up_apply, ↓hv_apply, ↓upO_some, ↓upO_none, ↓ev_tmp, ↓ev_const, ↓ev_func, ↓ev_global, init, Nat.reduceEqDiff, Nat.reduceAdd, Nat.reduceMul, Nat.reduceSub, ↓reduceIte, Int.reduceEq, Int.reduceNe, Nat.reduceLeDiff, one, Value.cells, Int.reduceLE, Int.reduceLT, Int.reduceToNat, add_mk, reduceCtorEq, List.mem_range'_1, true_and, and_true, and_false, false_and, Nat.reduceLT, Nat.reduceLeDiff, tyF, d0 ((j9).more hm10), wk, hkk, h96, ek]
    refine ⟨⟨?_, k + 1, L2, rfl, by omega, (hP9).more hm10, hql2, (hm09).trans hm10⟩, by simp only [numOf]; omega⟩
    repeat (first | exact Same.hv _ _ _ | refine Same.hv2 (fun s hs => mem_all22 (by decide) hs) ?_ | refine Same.up (by simp) ?_)
  · simp (config := {maxSteps := 1000000, implicitDefEqProofs := false}) only [↓zvN, zvU, ↓up_apply, ↓hv_apply, ↓upO_some, ↓upO_none, ↓ev_tmp, ↓ev_const, ↓ev_func, ↓ev_global, init, Nat.reduceEqDiff, Nat.reduceAdd, Nat.reduceMul, Nat.reduceSub, ↓reduceIte, Int.reduceEq, Int.reduceNe, Nat.reduceLeDiff, one, Value.cells, Int.reduceLE, Int.reduceLT, Int.reduceToNat, add_mk, reduceCtorEq, List.mem_range'_1, true_and, and_true, and_false, false_and, Nat.reduceLT, Nat.reduceLeDiff, tyF, d0 j5, wk, hkk, d1 j5, d9 j5]
    refine call_ok Try.call33 (box_in w5 x b t r u ra bu L a.p a.now haf.p hB5) ?_
    rintro _ w7 ⟨rfl, hB7, hm7⟩
    have hm07 : More w w7 := two_more (hm3.trans hm5) hm7 hxw.2.1 hxw.2.2
    have j7 := hm7.blk j5 hno2
    obtain ⟨A, c, hH⟩ := hP5.half hB7 (hP5.tok.sweep _) hm7 (fun _ h => h.1) (fun k' hk' h => h.sub fun e he => mem_sweepL he)
    have v7 := hH.var.all_eq 5 rfl
    have hql2 : ∀ e ∈ sweepL a.now L, w.heap.size ≤ e.2.q := fun e he => hql e (mem_sweepL he)
    simp (config := {maxSteps := 1000000, implicitDefEqProofs := false}) only [↓zvN, zvU, ↓up_apply, ↓hv_apply, ↓upO_some, ↓upO_none, ↓ev_tmp, ↓ev_const, ↓ev_func, ↓ev_global, init, Nat.reduceEqDiff, Nat.reduceAdd, Nat.reduceMul, Nat.reduceSub, ↓reduceIte, Int.reduceEq, Int.reduceNe, Nat.reduceLeDiff, one, Value.cells, Int.reduceLE, Int.reduceLT, Int.reduceToNat, add_mk, reduceCtorEq, List.mem_range'_1, true_and, and_true, and_false, false_and, Nat.reduceLT, Nat.reduceLeDiff, tyF, v7, d1 j7, d9 j7]
    refine call_ok Try.call38 (ref_sweep w7 A L c r u ra bu a.now hH.rows hPO hl64) ?_
    rintro _ w8 ⟨A', c', rfl, hc', hA', hg', hm8⟩
    simp (config := {maxSteps := 1000000, implicitDefEqProofs := false}) only [↓zvN, zvU, ↓up_apply, ↓hv_apply, ↓upO_some, ↓upO_none, ↓ev_tmp, ↓ev_const, ↓ev_func, ↓ev_global, init, Nat.reduceEqDiff, Nat.reduceAdd, Nat.reduceMul, Nat.reduceSub, ↓reduceIte, Int.reduceEq, Int.reduceNe, Nat.reduceLeDiff, one, Value.cells, Int.reduceLE, Int.reduceLT, Int.reduceToNat, add_mk, reduceCtorEq, List.mem_range'_1, true_and, and_true, and_false, false_and, Nat.reduceLT, Nat.reduceLeDiff, tyF]
    refine st_all (hH.var.more hm8) rfl rfl (rbox_one _ _ _ _ _ _ _) fun w9 k1 k2 => ?_
    rw [s2_undef]
    rw [List.toList_toArray] at k2
    have hP9 := hH.close hm8 hA' hg' k1 k2
    have j9 := k1.blk (j7.more hm8) hdab
    have hm09 : More w w9 := k1.below (hm07.trans hm8) hd0
    have lab := j9.lt
    have v9 := k2.all_eq 5 rfl
    have hB9 := hP9.box
    simp (config := {maxSteps := 1000000, implicitDefEqProofs := false}) only [↓zvN, zvU, ↓up_apply, ↓hv_apply, ↓upO_some, ↓upO_none, ↓ev_tmp, ↓ev_const, ↓ev_func, ↓ev_global, init, Nat.reduceEqDiff, Nat.reduceAdd, Nat.reduceMul, Nat.reduceSub, ↓reduceIte, Int.reduceEq, Int.reduceNe, Nat.reduceLeDiff, one, Value.cells, Int.reduceLE, Int.reduceLT, Int.reduceToNat, add_mk, reduceCtorEq, List.mem_range'_1, true_and, and_true, and_false, false_and, Nat.reduceLT, Nat.reduceLeDiff, tyF, v9, d1 j9]
    refine call_ok Try.call39 (ref_findB w9 A' (sweepL a.now L) c' r u ra bu a.p haf.p (k1.cs hA' (fun x hx => by have := hg' x hx; have := hP5.dlt; have := hm7.size; omega)) hB9.plen (by have := hB9.len64; omega)) ?_
    rintro _ w11 ⟨rfl, hm11⟩
    have hfind : (0 ≤ idxB a.p (sweepL a.now L) 0) = (inB a.now L a.p = true) := by
      unfold inB
      rw [decide_eq_true_iff]
      rcases idxB_spec (p := a.p) (sweepL a.now L) 0 with ⟨h1, h2⟩ | ⟨i, h1, h2, e, h3, h4⟩
      · rw [h1]
        exact propext ⟨fun h => (by omega), fun h => (h2 h).elim⟩
      · rw [h1]
        exact propext ⟨fun _ => (by rw [← h4]; exact mem_keys.2 ⟨e.2, List.mem_of_getElem? h3⟩), fun _ => (by omega)⟩
    have hm011 : More w w11 := hm09.trans hm11
    have hP11 := hP9.more hm11
    have j11 := j9.more hm11
    have lab := j11.lt
    obtain ⟨ix, hix⟩ : ∃ ix, idxB a.p (sweepL a.now L) 0 = ix := ⟨_, rfl⟩
    rw [hix] at hfind ⊢
    obtain ⟨cd, hcd⟩ : ∃ cd, inB a.now L a.p = cd := ⟨_, rfl⟩
    rw [hcd] at hfind ⊢
    have okd : decide (0 ≤ ix) = cd := by rw [show (decide (0 ≤ ix)) = decide (cd = true) by simp only [hfind]]; cases cd <;> rfl
    have okok : (cd == cd) = true := beq_self_eq_true cd
    simp (config := {maxSteps := 1000000, implicitDefEqProofs := false}) only [↓zvN, zvU, ↓up_apply, ↓hv_apply, ↓upO_some, ↓upO_none, ↓ev_tmp, ↓ev_const, ↓ev_func, ↓ev_global, init, Nat.reduceEqDiff, Nat.reduceAdd, Nat.reduceMul, Nat.reduceSub, ↓reduceIte, Int.reduceEq, Int.reduceNe, Nat.reduceLeDiff, one, Value.cells, Int.reduceLE, Int.reduceLT, Int.reduceToNat, add_mk, reduceCtorEq, List.mem_range'_1, true_and, and_true, and_false, false_and, Nat.reduceLT, Nat.reduceLeDiff, tyF, okd]
    refine draw_calm mixed (by kernel_rfl) ?_
    simp (config := {maxSteps := 1000000, implicitDefEqProofs := false}) only [↓zvN, zvU, ↓zqD, ↓up_apply, ↓hv_apply, ↓upO_some, ↓upO_none, ↓ev_tmp, ↓ev_const, ↓ev_func, ↓ev_global, init, Nat.reduceEqDiff, Nat.reduceAdd, Nat.reduceMul, Nat.reduceSub, ↓reduceIte, Int.reduceEq, Int.reduceNe, Nat.reduceLeDiff, one, Value.cells, Int.reduceLE, Int.reduceLT, Int.reduceToNat, add_mk, reduceCtorEq, List.mem_range'_1, true_and, and_true, and_false, false_and, Nat.reduceLT, Nat.reduceLeDiff, tyF, okok, tt, ff, tf, ft, d0 j11, lab, wk, hkk]
    intro w10 hm10
    simp (config := {maxSteps := 1000000, implicitDefEqProofs := false}) only [↓zvN, zvU, ↓up_apply, ↓hv_apply, ↓upO_some, ↓upO_none, ↓ev_tmp, ↓ev_const, ↓ev_func, ↓ev_global, init, Nat.reduceEqDiff, Nat.reduceAdd, Nat.reduceMul, Nat.reduceSub, ↓reduceIte, Int.reduceEq, Int.reduceNe, Nat.reduceLeDiff, one, Value.cells, Int.reduceLE, Int.reduceLT, Int.reduceToNat, add_mk, reduceCtorEq, List.mem_range'_1, true_and, and_true, and_false, false_and, Nat.reduceLT, Nat.reduceLeDiff, tyF, d0 ((j11).more hm10), wk, hkk, h96, ek]
    refine ⟨⟨?_, k + 1, sweepL a.now L, rfl, by omega, (hP11).more hm10, hql2, (hm011).trans hm10⟩, by simp only [numOf]; omega⟩
    repeat (first | exact Same.hv _ _ _ | refine Same.hv2 (fun s hs => mem_all22 (by decide) hs) ?_ | refine Same.up (by simp) ?_)
  · simp (config := {maxSteps := 1000000, implicitDefEqProofs := false}) only [↓zvN, zvU, ↓up_apply, ↓hv_apply, ↓upO_some, ↓upO_none, ↓ev_tmp, ↓ev_const, ↓ev_func, ↓ev_global, init, Nat.reduceEqDiff, Nat.reduceAdd, Nat.reduceMul, Nat.reduceSub, ↓reduceIte, Int.reduceEq, Int.reduceNe, Nat.reduceLeDiff, one, Value.cells, Int.reduceLE, Int.reduceLT, Int.reduceToNat, add_mk, reduceCtorEq, List.mem_range'_1, true_and, and_true, and_false, false_and, Nat.reduceLT, Nat.reduceLeDiff, tyF, d0 j5, wk, hkk, d1 j5, d9 j5, d10 j5]
    refine call_ok Try.call35 (box_take w5 x b t r u ra bu L a.p a.now a.n haf.p hB5 haf.w1 haf.n1) ?_
    rintro _ w7 ⟨rfl, hB7, hm7⟩
    have hm07 : More w w7 := Mod.more (hm3.trans hm5) hm7 (fun k hk h => by
      rcases h with (h | h) | ⟨e, he, h⟩
      · omega
      · omega
      · have := hql e he
        omega)
    have j7 := hm7.blk j5 hno
    obtain ⟨A, c, hH⟩ := hP5.half hB7 ((hP5.tok.sweep _).take _ _ _) hm7 (fun k h h' => by
      rcases h' with h' | ⟨e, he, h'⟩
      · exact h.1 h'
      · exact h.2.2 e he h'.symm) (fun k' hk' h => (h.sub fun e he => mem_sweepL he).takeL)
    have v7 := hH.var.all_eq 5 rfl
    have hql2 : ∀ e ∈ takeL (sweepL a.now L) a.p (max a.now 0) a.n, w.heap.size ≤ e.2.q := fun e he => by
      obtain ⟨e', he', h1⟩ := mem_takeB he
      rw [h1]
      exact hql e' (mem_sweepL he')
    simp (config := {maxSteps := 1000000, implicitDefEqProofs := false}) only [↓zvN, zvU, ↓up_apply, ↓hv_apply, ↓upO_some, ↓upO_none, ↓ev_tmp, ↓ev_const, ↓ev_func, ↓ev_global, init, Nat.reduceEqDiff, Nat.reduceAdd, Nat.reduceMul, Nat.reduceSub, ↓reduceIte, Int.reduceEq, Int.reduceNe, Nat.reduceLeDiff, one, Value.cells, Int.reduceLE, Int.reduceLT, Int.reduceToNat, add_mk, reduceCtorEq, List.mem_range'_1, true_and, and_true, and_false, false_and, Nat.reduceLT, Nat.reduceLeDiff, tyF, v7, d1 j7, d9 j7, d10 j7]
    refine call_ok Try.call40 (ref_takeB w7 A L c r u ra bu a.p a.now a.n haf.p hH.rows hPO hsrt hl64 hP5.tok ht.2.2 haf.w1 haf.n1) ?_
    rintro _ w8 ⟨A', c', rfl, hc', hA', hg', hm8⟩
    obtain ⟨cd, hcd⟩ : ∃ cd, canB a.now a.n L a.p = cd := ⟨_, rfl⟩
    rw [hcd]
    have okok : (cd == cd) = true := beq_self_eq_true cd
    simp (config := {maxSteps := 1000000, implicitDefEqProofs := false}) only [↓zvN, zvU, ↓up_apply, ↓hv_apply, ↓upO_some, ↓upO_none, ↓ev_tmp, ↓ev_const, ↓ev_func, ↓ev_global, init, Nat.reduceEqDiff, Nat.reduceAdd, Nat.reduceMul, Nat.reduceSub, ↓reduceIte, Int.reduceEq, Int.reduceNe, Nat.reduceLeDiff, one, Value.cells, Int.reduceLE, Int.reduceLT, Int.reduceToNat, add_mk, reduceCtorEq, List.mem_range'_1, true_and, and_true, and_false, false_and, Nat.reduceLT, Nat.reduceLeDiff, tyF]
    refine st_all (hH.var.more hm8) rfl rfl (rbox_one _ _ _ _ _ _ _) fun w9 k1 k2 => ?_
    rw [s2_undef]
    rw [List.toList_toArray] at k2
    have hP9 := hH.close hm8 hA' hg' k1 k2
    have j9 := k1.blk (j7.more hm8) hdab
    have hm09 : More w w9 := k1.below (hm07.trans hm8) hd0
    have lab := j9.lt
    simp (config := {maxSteps := 1000000, implicitDefEqProofs := false}) only [↓zvN, zvU, ↓up_apply, ↓hv_apply, ↓upO_some, ↓upO_none, ↓ev_tmp, ↓ev_const, ↓ev_func, ↓ev_global, init, Nat.reduceEqDiff, Nat.reduceAdd, Nat.reduceMul, Nat.reduceSub, ↓reduceIte, Int.reduceEq, Int.reduceNe, Nat.reduceLeDiff, one, Value.cells, Int.reduceLE, Int.reduceLT, Int.reduceToNat, add_mk, reduceCtorEq, List.mem_range'_1, true_and, and_true, and_false, false_and, Nat.reduceLT, Nat.reduceLeDiff, tyF]
    refine draw_calm mixed (by kernel_rfl) ?_
    simp (config := {maxSteps := 1000000, implicitDefEqProofs := false}) only [↓zvN, zvU, ↓zqD, ↓up_apply, ↓hv_apply, ↓upO_some, ↓upO_none, ↓ev_tmp, ↓ev_const, ↓ev_func, ↓ev_global, init, Nat.reduceEqDiff, Nat.reduceAdd, Nat.reduceMul, Nat.reduceSub, ↓reduceIte, Int.reduceEq, Int.reduceNe, Nat.reduceLeDiff, one, Value.cells, Int.reduceLE, Int.reduceLT, Int.reduceToNat, add_mk, reduceCtorEq, List.mem_range'_1, true_and, and_true, and_false, false_and, Nat.reduceLT, Nat.reduceLeDiff, tyF, okok, tt, ff, tf, ft, d0 j9, lab, wk, hkk]
    intro w10 hm10
    simp (config := {maxSteps := 1000000, implicitDefEqProofs := false}) only [↓zvN, zvU, ↓up_apply, ↓hv_apply, ↓upO_some, ↓upO_none, ↓ev_tmp, ↓ev_const, ↓ev_func, ↓ev_global, init, Nat.reduceEqDiff, Nat.reduceAdd, Nat.reduceMul, Nat.reduceSub, ↓reduceIte, Int.reduceEq, Int.reduceNe, Nat.reduceLeDiff, one, Value.cells, Int.reduceLE, Int.reduceLT, Int.reduceToNat, add_mk, reduceCtorEq, List.mem_range'_1, true_and, and_true, and_false, false_and, Nat.reduceLT, Nat.reduceLeDiff, tyF, d0 ((j9).more hm10), wk, hkk, h96, ek]
    refine ⟨⟨?_, k + 1, takeL (sweepL a.now L) a.p (max a.now 0) a.n, rfl, by omega, (hP9).more hm10, hql2, (hm09).trans hm10⟩, by simp only [numOf]; omega⟩
    repeat (first | exact Same.hv _ _ _ | refine Same.hv2 (fun s hs => mem_all22 (by decide) hs) ?_ | refine Same.up (by simp) ?_)
  · simp (config := {maxSteps := 1000000, implicitDefEqProofs := false}) only [↓zvN, zvU, ↓up_apply, ↓hv_apply, ↓upO_some, ↓upO_none, ↓ev_tmp, ↓ev_const, ↓ev_func, ↓ev_global, init, Nat.reduceEqDiff, Nat.reduceAdd, Nat.reduceMul, Nat.reduceSub, ↓reduceIte, Int.reduceEq, Int.reduceNe, Nat.reduceLeDiff, one, Value.cells, Int.reduceLE, Int.reduceLT, Int.reduceToNat, add_mk, reduceCtorEq, List.mem_range'_1, true_and, and_true, and_false, false_and, Nat.reduceLT, Nat.reduceLeDiff, tyF, d0 j5, wk, hkk, d1 j5, d9 j5, d10 j5]
    refine call_ok Try.call35 (box_take w5 x b t r u ra bu L a.p a.now a.n haf.p hB5 haf.w1 haf.n1) ?_
    rintro _ w7 ⟨rfl, hB7, hm7⟩
    have hm07 : More w w7 := Mod.more (hm3.trans hm5) hm7 (fun k hk h => by
      rcases h with (h | h) | ⟨e, he, h⟩
      · omega
      · omega
      · have := hql e he
        omega)
    have j7 := hm7.blk j5 hno
    obtain ⟨A, c, hH⟩ := hP5.half hB7 ((hP5.tok.sweep _).take _ _ _) hm7 (fun k h h' => by
      rcases h' with h' | ⟨e, he, h'⟩
      · exact h.1 h'
      · exact h.2.2 e he h'.symm) (fun k' hk' h => (h.sub fun e he => mem_sweepL he).takeL)
    have v7 := hH.var.all_eq 5 rfl
    have hql2 : ∀ e ∈ takeL (sweepL a.now L) a.p (max a.now 0) a.n, w.heap.size ≤ e.2.q := fun e he => by
      obtain ⟨e', he', h1⟩ := mem_takeB he
      rw [h1]
      exact hql e' (mem_sweepL he')
    simp (config := {maxSteps := 1000000, implicitDefEqProofs := false}) only [↓zvN, zvU, ↓up_apply, ↓hv_apply, ↓upO_some, ↓upO_none, ↓ev_tmp, ↓ev_const, ↓ev_func, ↓ev_global, init, Nat.reduceEqDiff, Nat.reduceAdd, Nat.reduceMul, Nat.reduceSub, ↓reduceIte, Int.reduceEq, Int.reduceNe, Nat.reduceLeDiff, one, Value.cells, Int.reduceLE, Int.reduceLT, Int.reduceToNat, add_mk, reduceCtorEq, List.mem_range'_1, true_and, and_true, and_false, false_and, Nat.reduceLT, Nat.reduceLeDiff, tyF, v7, d1 j7, d9 j7, d10 j7]
    refine call_ok Try.call40 (ref_takeB w7 A L c r u ra bu a.p a.now a.n haf.p hH.rows hPO hsrt hl64 hP5.tok ht.2.2 haf.w1 haf.n1) ?_
    rintro _ w8 ⟨A', c', rfl, hc', hA', hg', hm8⟩
    obtain ⟨cd, hcd⟩ : ∃ cd, canB a.now a.n L a.p = cd := ⟨_, rfl⟩
    rw [hcd]
    have okok : (cd == cd) = true := beq_self_eq_true cd
    simp (config := {maxSteps := 1000000, implicitDefEqProofs := false}) only [↓zvN, zvU, ↓up_apply, ↓hv_apply, ↓upO_some, ↓upO_none, ↓ev_tmp, ↓ev_const, ↓ev_func, ↓ev_global, init, Nat.reduceEqDiff, Nat.reduceAdd, Nat.reduceMul, Nat.reduceSub, ↓reduceIte, Int.reduceEq, Int.reduceNe, Nat.reduceLeDiff, one, Value.cells, Int.reduceLE, Int.reduceLT, Int.reduceToNat, add_mk, reduceCtorEq, List.mem_range'_1, true_and, and_true, and_false, false_and, Nat.reduceLT, Nat.reduceLeDiff, tyF]
    refine st_all (hH.var.more hm8) rfl rfl (rbox_one _ _ _ _ _ _ _) fun w9 k1 k2 => ?_
    rw [s2_undef]
    rw [List.toList_toArray] at k2
    have hP9 := hH.close hm8 hA' hg' k1 k2
    have j9 := k1.blk (j7.more hm8) hdab
    have hm09 : More w w9 := k1.below (hm07.trans hm8) hd0
    have lab := j9.lt
    simp (config := {maxSteps := 1000000, implicitDefEqProofs := false}) only [↓zvN, zvU, ↓up_apply, ↓hv_apply, ↓upO_some, ↓upO_none, ↓ev_tmp, ↓ev_const, ↓ev_func, ↓ev_global, init, Nat.reduceEqDiff, Nat.reduceAdd, Nat.reduceMul, Nat.reduceSub, ↓reduceIte, Int.reduceEq, Int.reduceNe, Nat.reduceLeDiff, one, Value.cells, Int.reduceLE, Int.reduceLT, Int.reduceToNat, add_mk, reduceCtorEq, List.mem_range'_1, true_and, and_true, and_false, false_and, Nat.reduceLT, Nat.reduceLeDiff, tyF]
    refine draw_calm mixed (by kernel_rfl) ?_
    simp (config := {maxSteps := 1000000, implicitDefEqProofs := false}) only [↓zvN, zvU, ↓zqD, ↓up_apply, ↓hv_apply, ↓upO_some, ↓upO_none, ↓ev_tmp, ↓ev_const, ↓ev_func, ↓ev_global, init, Nat.reduceEqDiff, Nat.reduceAdd, Nat.reduceMul, Nat.reduceSub, ↓reduceIte, Int.reduceEq, Int.reduceNe, Nat.reduceLeDiff, one, Value.cells, Int.reduceLE, Int.reduceLT, Int.reduceToNat, add_mk, reduceCtorEq, List.mem_range'_1, true_and, and_true, and_false, false_and, Nat.reduceLT, Nat.reduceLeDiff, tyF, okok, tt, ff, tf, ft, d0 j9, lab, wk, hkk]
    intro w10 hm10
    simp (config := {maxSteps := 1000000, implicitDefEqProofs := false}) only [↓zvN, zvU, ↓up_apply, ↓hv_apply, ↓upO_some, ↓upO_none, ↓ev_tmp, ↓ev_const, ↓ev_func, ↓ev_global, init, Nat.reduceEqDiff, Nat.reduceAdd, Nat.reduceMul, Nat.reduceSub, ↓reduceIte, Int.reduceEq, Int.reduceNe, Nat.reduceLeDiff, one, Value.cells, Int.reduceLE, Int.reduceLT, Int.reduceToNat, add_mk, reduceCtorEq, List.mem_range'_1, true_and, and_true, and_false, false_and, Nat.reduceLT, Nat.reduceLeDiff, tyF, d0 ((j9).more hm10), wk, hkk, h96, ek]
    refine ⟨⟨?_, k + 1, takeL (sweepL a.now L) a.p (max a.now 0) a.n, rfl, by omega, (hP9).more hm10, hql2, (hm09).trans hm10⟩, by simp only [numOf]; omega⟩
    repeat (first | exact Same.hv _ _ _ | refine Same.hv2 (fun s hs => mem_all22 (by decide) hs) ?_ | refine Same.up (by simp) ?_)
  · simp (config := {maxSteps := 1000000, implicitDefEqProofs := false}) only [↓zvN, zvU, ↓up_apply, ↓hv_apply, ↓upO_some, ↓upO_none, ↓ev_tmp, ↓ev_const, ↓ev_func, ↓ev_global, init, Nat.reduceEqDiff, Nat.reduceAdd, Nat.reduceMul, Nat.reduceSub, ↓reduceIte, Int.reduceEq, Int.reduceNe, Nat.reduceLeDiff, one, Value.cells, Int.reduceLE, Int.reduceLT, Int.reduceToNat, add_mk, reduceCtorEq, List.mem_range'_1, true_and, and_true, and_false, false_and, Nat.reduceLT, Nat.reduceLeDiff, tyF, d0 j5, wk, hkk, d1 j5, d9 j5]
    refine call_ok Try.call34 (box_drop w5 x b t r u ra bu L a.p a.now haf.p hB5) ?_
    rintro _ w7 ⟨rfl, hB7, hm7⟩
    have hm07 : More w w7 := two_more (hm3.trans hm5) hm7 hxw.2.1 hxw.2.2
    have j7 := hm7.blk j5 hno2
    obtain ⟨A, c, hH⟩ := hP5.half hB7 ((hP5.tok.sweep _).del _) hm7 (fun _ h => h.1) (fun k' hk' h => h.sub fun e he => mem_sweepL (mem_delB he))
    have v7 := hH.var.all_eq 5 rfl
    have hql2 : ∀ e ∈ delL (sweepL a.now L) a.p, w.heap.size ≤ e.2.q := fun e he => hql e (mem_sweepL (mem_delB he))
    simp (config := {maxSteps := 1000000, implicitDefEqProofs := false}) only [↓zvN, zvU, ↓up_apply, ↓hv_apply, ↓upO_some, ↓upO_none, ↓ev_tmp, ↓ev_const, ↓ev_func, ↓ev_global, init, Nat.reduceEqDiff, Nat.reduceAdd, Nat.reduceMul, Nat.reduceSub, ↓reduceIte, Int.reduceEq, Int.reduceNe, Nat.reduceLeDiff, one, Value.cells, Int.reduceLE, Int.reduceLT, Int.reduceToNat, add_mk, reduceCtorEq, List.mem_range'_1, true_and, and_true, and_false, false_and, Nat.reduceLT, Nat.reduceLeDiff, tyF, v7, d1 j7, d9 j7]
    refine call_ok Try.call41 (ref_dropB w7 A L c r u ra bu a.p a.now haf.p hH.rows hPO hsrt hl64) ?_
    rintro _ w8 ⟨A', c', rfl, hc', hA', hg', hm8⟩
    obtain ⟨cd, hcd⟩ : ∃ cd, inB a.now L a.p = cd := ⟨_, rfl⟩
    rw [hcd]
    have okok : (cd == cd) = true := beq_self_eq_true cd
    simp (config := {maxSteps := 1000000, implicitDefEqProofs := false}) only [↓zvN, zvU, ↓up_apply, ↓hv_apply, ↓upO_some, ↓upO_none, ↓ev_tmp, ↓ev_const, ↓ev_func, ↓ev_global, init, Nat.reduceEqDiff, Nat.reduceAdd, Nat.reduceMul, Nat.reduceSub, ↓reduceIte, Int.reduceEq, Int.reduceNe, Nat.reduceLeDiff, one, Value.cells, Int.reduceLE, Int.reduceLT, Int.reduceToNat, add_mk, reduceCtorEq, List.mem_range'_1, true_and, and_true, and_false, false_and, Nat.reduceLT, Nat.reduceLeDiff, tyF]
    refine st_all (hH.var.more hm8) rfl rfl (rbox_one _ _ _ _ _ _ _) fun w9 k1 k2 => ?_
    rw [s2_undef]
    rw [List.toList_toArray] at k2
    have hP9 := hH.close hm8 hA' hg' k1 k2
    have j9 := k1.blk (j7.more hm8) hdab
    have hm09 : More w w9 := k1.below (hm07.trans hm8) hd0
    have lab := j9.lt
    simp (config := {maxSteps := 1000000, implicitDefEqProofs := false}) only [↓zvN, zvU, ↓up_apply, ↓hv_apply, ↓upO_some, ↓upO_none, ↓ev_tmp, ↓ev_const, ↓ev_func, ↓ev_global, init, Nat.reduceEqDiff, Nat.reduceAdd, Nat.reduceMul, Nat.reduceSub, ↓reduceIte, Int.reduceEq, Int.reduceNe, Nat.reduceLeDiff, one, Value.cells, Int.reduceLE, Int.reduceLT, Int.reduceToNat, add_mk, reduceCtorEq, List.mem_range'_1, true_and, and_true, and_false, false_and, Nat.reduceLT, Nat.reduceLeDiff, tyF]
    refine draw_calm mixed (by kernel_rfl) ?_
    simp (config := {maxSteps := 1000000, implicitDefEqProofs := false}) only [↓zvN, zvU, ↓zqD, ↓up_apply, ↓hv_apply, ↓upO_some, ↓upO_none, ↓ev_tmp, ↓ev_const, ↓ev_func, ↓ev_global, init, Nat.reduceEqDiff, Nat.reduceAdd, Nat.reduceMul, Nat.reduceSub, ↓reduceIte, Int.reduceEq, Int.reduceNe, Nat.reduceLeDiff, one, Value.cells, Int.reduceLE, Int.reduceLT, Int.reduceToNat, add_mk, reduceCtorEq, List.mem_range'_1, true_and, and_true, and_false, false_and, Nat.reduceLT, Nat.reduceLeDiff, tyF, okok, tt, ff, tf, ft, d0 j9, lab, wk, hkk]
    intro w10 hm10
    simp (config := {maxSteps := 1000000, implicitDefEqProofs := false}) only [↓zvN, zvU, ↓up_apply, ↓hv_apply, ↓upO_some, ↓upO_none, ↓ev_tmp, ↓ev_const, ↓ev_func, ↓ev_global, init, Nat.reduceEqDiff, Nat.reduceAdd, Nat.reduceMul, Nat.reduceSub, ↓reduceIte, Int.reduceEq, Int.reduceNe, Nat.reduceLeDiff, one, Value.cells, Int.reduceLE, Int.reduceLT, Int.reduceToNat, add_mk, reduceCtorEq, List.mem_range'_1, true_and, and_true, and_false, false_and, Nat.reduceLT, Nat.reduceLeDiff, tyF, d0 ((j9).more hm10), wk, hkk, h96, ek]
    refine ⟨⟨?_, k + 1, delL (sweepL a.now L) a.p, rfl, by omega, (hP9).more hm10, hql2, (hm09).trans hm10⟩, by simp only [numOf]; omega⟩
    repeat (first | exact Same.hv _ _ _ | refine Same.hv2 (fun s hs => mem_all22 (by decide) hs) ?_ | refine Same.up (by simp) ?_)
  · have lab := j5.lt
    obtain ⟨Ad, cd, vd, rowsd, fard⟩ := hP5.doc
    have hFd : ∀ q, q = ab ∨ q = d → FarB x b t L q := by
      rintro q (rfl | rfl)
      · exact ⟨hno2, (by omega), fun e he h => hno (.inr ⟨e, he, h.symm⟩)⟩
      · exact hP5.far
    have hFl : ∀ q, q = ab ∨ q = d → q < w5.heap.size := by
      rintro q (rfl | rfl)
      · exact lab
      · exact hP5.dlt
    simp (config := {maxSteps := 1000000, implicitDefEqProofs := false}) only [↓zvN, zvU, ↓up_apply, ↓hv_apply, ↓upO_some, ↓upO_none, ↓ev_tmp, ↓ev_const, ↓ev_func, ↓ev_global, init, Nat.reduceEqDiff, Nat.reduceAdd, Nat.reduceMul, Nat.reduceSub, ↓reduceIte, Int.reduceEq, Int.reduceNe, Nat.reduceLeDiff, one, Value.cells, Int.reduceLE, Int.reduceLT, Int.reduceToNat, add_mk, reduceCtorEq, List.mem_range'_1, true_and, and_true, and_false, false_and, Nat.reduceLT, Nat.reduceLeDiff, tyF]
    refine draw_line 0 (KeepF 0 fun q => q = ab ∨ q = d) [0, 0, 0, 0, 0, 2, 0, 0, 0, 0, 0, 2, 1, 2, 0, 2, 1, 1, 0, 0, 0] [[], [], [0, 1], [0, 1, 2], [0, 1, 2, 3], [0, 1, 2, 3, 4], [0, 1, 2, 3, 4, 5], [0, 1, 2, 3, 4, 5, 6], [0, 1, 2, 3, 4, 5, 6, 7], [0, 1, 2, 3, 4, 5, 6, 7, 8], [0, 1, 2, 3, 4, 5, 6, 7, 8], [0, 1, 2, 3, 4, 5, 6, 7, 8, 10], [0, 1, 2, 3, 4, 5, 6, 7, 8, 9, 10, 11], [0, 1, 2, 3, 4, 5, 6, 7, 8], [0, 1, 2, 3, 4, 5, 6, 7, 8], [0, 1, 2, 3, 4, 5, 6, 7, 8, 14], [0, 1, 2, 3, 4, 5, 6, 7, 8, 9, 10, 11, 12, 13, 14, 15], [0, 1, 2, 3, 4, 5, 6, 7, 8, 9, 10, 11, 12, 13, 14, 15, 16], [0, 1, 2, 3, 4, 5, 6, 7, 8, 9, 10, 11, 12, 13, 14, 15, 16, 17], [0, 1, 2, 3, 4, 5, 6, 7, 8, 9, 10, 11, 12, 13, 14, 15, 16, 17, 18], [0, 1, 2, 3, 4, 5, 6, 7, 8, 9, 10, 11, 12, 13, 14, 15, 16, 17, 18, 19]] mixed (by kernel_rfl) (by kernel_rfl) (KeepF.refl _ _ _) (fun w' h => KeepF.of_more h (by omega) hFl) (fun w' h => h.1) ?_
    intro w6 hm6
    have hk6 : KeepF 0 (fun q => q = ab ∨ q = d) w5 w6 := KeepF.of_more hm6 (by omega) hFl
    simp (config := {maxSteps := 1000000, implicitDefEqProofs := false}) only [↓zvN, zvU, ↓zqD, ↓sk_nil, ↓sk_cons, ↓sk_guard, ↓sk_zero, ↓sk_one, ↓sk_two, ↓up_apply, ↓hv_apply, ↓upO_some, ↓upO_none, ↓ev_tmp, ↓ev_const, ↓ev_func, ↓ev_global, init, Nat.reduceEqDiff, Nat.reduceAdd, Nat.reduceMul, Nat.reduceSub, ↓reduceIte, Int.reduceEq, Int.reduceNe, Nat.reduceLeDiff, one, Value.cells, Int.reduceLE, Int.reduceLT, Int.reduceToNat, add_mk, reduceCtorEq, List.mem_range'_1, true_and, and_true, and_false, false_and, Nat.reduceLT, Nat.reduceLeDiff, tyF, tt, ff, tf, ft]
    refine read_ok (.int .u8 a.kind) rfl (fun wr hkr => ?_) ?_
    · simp (config := {maxSteps := 1000000, implicitDefEqProofs := false}) only [↓zvN, zvU, ↓up_apply, ↓hv_apply, ↓upO_some, ↓upO_none, ↓ev_tmp, ↓ev_const, ↓ev_func, ↓ev_global, init, Nat.reduceEqDiff, Nat.reduceAdd, Nat.reduceMul, Nat.reduceSub, ↓reduceIte, Int.reduceEq, Int.reduceNe, Nat.reduceLeDiff, one, Value.cells, Int.reduceLE, Int.reduceLT, Int.reduceToNat, add_mk, reduceCtorEq, List.mem_range'_1, true_and, and_true, and_false, false_and, Nat.reduceLT, Nat.reduceLeDiff, tyF, d0 (hkr.blk (.inl rfl) j5)]
    simp (config := {maxSteps := 1000000, implicitDefEqProofs := false}) only [↓zvN, zvU, ↓zqD, ↓sk_nil, ↓sk_cons, ↓sk_guard, ↓sk_zero, ↓sk_one, ↓sk_two, ↓up_apply, ↓hv_apply, ↓upO_some, ↓upO_none, ↓ev_tmp, ↓ev_const, ↓ev_func, ↓ev_global, init, Nat.reduceEqDiff, Nat.reduceAdd, Nat.reduceMul, Nat.reduceSub, ↓reduceIte, Int.reduceEq, Int.reduceNe, Nat.reduceLeDiff, one, Value.cells, Int.reduceLE, Int.reduceLT, Int.reduceToNat, add_mk, reduceCtorEq, List.mem_range'_1, true_and, and_true, and_false, false_and, Nat.reduceLT, Nat.reduceLeDiff, tyF, tt, ff, tf, ft, wk, hkk]
    refine read_ok (.int .i64 a.now) rfl (fun wr hkr => ?_) ?_
    · simp (config := {maxSteps := 1000000, implicitDefEqProofs := false}) only [↓zvN, zvU, ↓up_apply, ↓hv_apply, ↓upO_some, ↓upO_none, ↓ev_tmp, ↓ev_const, ↓ev_func, ↓ev_global, init, Nat.reduceEqDiff, Nat.reduceAdd, Nat.reduceMul, Nat.reduceSub, ↓reduceIte, Int.reduceEq, Int.reduceNe, Nat.reduceLeDiff, one, Value.cells, Int.reduceLE, Int.reduceLT, Int.reduceToNat, add_mk, reduceCtorEq, List.mem_range'_1, true_and, and_true, and_false, false_and, Nat.reduceLT, Nat.reduceLeDiff, tyF, d9 (hkr.blk (.inl rfl) j5)]
    simp (config := {maxSteps := 1000000, implicitDefEqProofs := false}) only [↓zvN, zvU, ↓zqD, ↓sk_nil, ↓sk_cons, ↓sk_guard, ↓sk_zero, ↓sk_one, ↓sk_two, ↓up_apply, ↓hv_apply, ↓upO_some, ↓upO_none, ↓ev_tmp, ↓ev_const, ↓ev_func, ↓ev_global, init, Nat.reduceEqDiff, Nat.reduceAdd, Nat.reduceMul, Nat.reduceSub, ↓reduceIte, Int.reduceEq, Int.reduceNe, Nat.reduceLeDiff, one, Value.cells, Int.reduceLE, Int.reduceLT, Int.reduceToNat, add_mk, reduceCtorEq, List.mem_range'_1, true_and, and_true, and_false, false_and, Nat.reduceLT, Nat.reduceLeDiff, tyF, tt, ff, tf, ft, wk, hkk]
    refine call_ok Try.call36 (box_all w6 x b t r u ra bu L a.now (hB5.more hm6)) ?_
    rintro _ w7 ⟨A7, c7, rfl, hA7, hg7, hB7, hm7⟩
    have hm07 : More w w7 := two_more ((hm3.trans hm5).trans hm6) hm7 hxw.2.1 hxw.2.2
    have hk7 := hk6.next hm7 (fun q hq => (hFd q hq).1) (fun q hq => by omega) (fun q hq => by have := hFl q hq; have := hm6.size; omega) (by omega)
    obtain ⟨A, c, hH⟩ := (hP5.more hm6).half hB7 (hP5.tok.sweep _) hm7 (fun _ h => h.1) (fun k' hk' h => h.sub fun e he => mem_sweepL he)
    have hql2 : ∀ e ∈ sweepL a.now L, w.heap.size ≤ e.2.q := fun e he => hql e (mem_sweepL he)
    have rows7 := hm7.cs (rowsd.more hm6) (fun x hx => (fard x hx).1)
    obtain ⟨S, hS⟩ : ∃ S, sweepL a.now L = S := ⟨_, rfl⟩
    have hkl : S.length = (keysM S).length := by simp [keysM]
    rw [hS] at hA7 hB7 hH hql2 ⊢
    rw [hkl]
    simp (config := {maxSteps := 1000000, implicitDefEqProofs := false}) only [↓zvN, zvU, ↓zqD, ↓sk_nil, ↓sk_cons, ↓sk_guard, ↓sk_zero, ↓sk_one, ↓sk_two, ↓up_apply, ↓hv_apply, ↓upO_some, ↓upO_none, ↓ev_tmp, ↓ev_const, ↓ev_func, ↓ev_global, init, Nat.reduceEqDiff, Nat.reduceAdd, Nat.reduceMul, Nat.reduceSub, ↓reduceIte, Int.reduceEq, Int.reduceNe, Nat.reduceLeDiff, one, Value.cells, Int.reduceLE, Int.reduceLT, Int.reduceToNat, add_mk, reduceCtorEq, List.mem_range'_1, true_and, and_true, and_false, false_and, Nat.reduceLT, Nat.reduceLeDiff, tyF, tt, ff, tf, ft, wk, hkk]
    refine ⟨hk7, ?_⟩
    refine read_ok (.agg (rbox Ad L.length cd r u ra bu).toArray) rfl (fun wr hkr => ?_) ?_
    · simp (config := {maxSteps := 1000000, implicitDefEqProofs := false}) only [↓zvN, zvU, ↓up_apply, ↓hv_apply, ↓upO_some, ↓upO_none, ↓ev_tmp, ↓ev_const, ↓ev_func, ↓ev_global, init, Nat.reduceEqDiff, Nat.reduceAdd, Nat.reduceMul, Nat.reduceSub, ↓reduceIte, Int.reduceEq, Int.reduceNe, Nat.reduceLeDiff, one, Value.cells, Int.reduceLE, Int.reduceLT, Int.reduceToNat, add_mk, reduceCtorEq, List.mem_range'_1, true_and, and_true, and_false, false_and, Nat.reduceLT, Nat.reduceLeDiff, tyF, (hkr.blk (.inr rfl) vd).all_eq 5 rfl]
    simp (config := {maxSteps := 1000000, implicitDefEqProofs := false}) only [↓zvN, zvU, ↓zqD, ↓sk_nil, ↓sk_cons, ↓sk_guard, ↓sk_zero, ↓sk_one, ↓sk_two, ↓up_apply, ↓hv_apply, ↓upO_some, ↓upO_none, ↓ev_tmp, ↓ev_const, ↓ev_func, ↓ev_global, init, Nat.reduceEqDiff, Nat.reduceAdd, Nat.reduceMul, Nat.reduceSub, ↓reduceIte, Int.reduceEq, Int.reduceNe, Nat.reduceLeDiff, one, Value.cells, Int.reduceLE, Int.reduceLT, Int.reduceToNat, add_mk, reduceCtorEq, List.mem_range'_1, true_and, and_true, and_false, false_and, Nat.reduceLT, Nat.reduceLeDiff, tyF, tt, ff, tf, ft, wk, hkk]
    refine read_ok (.int .i64 a.now) rfl (fun wr hkr => ?_) ?_
    · simp (config := {maxSteps := 1000000, implicitDefEqProofs := false}) only [↓zvN, zvU, ↓up_apply, ↓hv_apply, ↓upO_some, ↓upO_none, ↓ev_tmp, ↓ev_const, ↓ev_func, ↓ev_global, init, Nat.reduceEqDiff, Nat.reduceAdd, Nat.reduceMul, Nat.reduceSub, ↓reduceIte, Int.reduceEq, Int.reduceNe, Nat.reduceLeDiff, one, Value.cells, Int.reduceLE, Int.reduceLT, Int.reduceToNat, add_mk, reduceCtorEq, List.mem_range'_1, true_and, and_true, and_false, false_and, Nat.reduceLT, Nat.reduceLeDiff, tyF, d9 (hkr.blk (.inl rfl) j5)]
    simp (config := {maxSteps := 1000000, implicitDefEqProofs := false}) only [↓zvN, zvU, ↓zqD, ↓sk_nil, ↓sk_cons, ↓sk_guard, ↓sk_zero, ↓sk_one, ↓sk_two, ↓up_apply, ↓hv_apply, ↓upO_some, ↓upO_none, ↓ev_tmp, ↓ev_const, ↓ev_func, ↓ev_global, init, Nat.reduceEqDiff, Nat.reduceAdd, Nat.reduceMul, Nat.reduceSub, ↓reduceIte, Int.reduceEq, Int.reduceNe, Nat.reduceLeDiff, one, Value.cells, Int.reduceLE, Int.reduceLT, Int.reduceToNat, add_mk, reduceCtorEq, List.mem_range'_1, true_and, and_true, and_false, false_and, Nat.reduceLT, Nat.reduceLeDiff, tyF, tt, ff, tf, ft, wk, hkk]
    refine call_ok Try.call42 (ref_allB w7 Ad L cd r u ra bu a.now rows7 hPO hl64) ?_
    rintro _ w8 ⟨A8, c8, rfl, hA8, hm8⟩
    have hk8 := hk7.more hm8 (fun q hq => by have := hFl q hq; have := hm6.size; have := hm7.size; omega) (by omega)
    rw [hS] at hA8 ⊢
    rw [hkl]
    have hpk : ∀ p ∈ keysM S, p.addr.length = 7 := fun p hp => by
      obtain ⟨e, he⟩ := mem_keys.1 hp
      exact hB7.plen _ he
    have hSl : (keysM S).length ≤ 1000000 := by rw [← hkl]; have := hB7.len64; omega
    simp (config := {maxSteps := 1000000, implicitDefEqProofs := false}) only [↓zvN, zvU, ↓zqD, ↓sk_nil, ↓sk_cons, ↓sk_guard, ↓sk_zero, ↓sk_one, ↓sk_two, ↓up_apply, ↓hv_apply, ↓upO_some, ↓upO_none, ↓ev_tmp, ↓ev_const, ↓ev_func, ↓ev_global, init, Nat.reduceEqDiff, Nat.reduceAdd, Nat.reduceMul, Nat.reduceSub, ↓reduceIte, Int.reduceEq, Int.reduceNe, Nat.reduceLeDiff, one, Value.cells, Int.reduceLE, Int.reduceLT, Int.reduceToNat, add_mk, reduceCtorEq, List.mem_range'_1, true_and, and_true, and_false, false_and, Nat.reduceLT, Nat.reduceLeDiff, tyF, tt, ff, tf, ft, wk, hkk]
    refine ⟨hk8, ?_⟩
    refine call_ok Try.call22 (ref_same w8 A7 A8 (keysM S) (keysM S) c7 c8 (hA7.more hm8) hA8 hpk hpk hSl hSl) ?_
    rintro _ w9 ⟨rfl, hm9⟩
    have hk9 := hk8.more hm9 (fun q hq => by have := hFl q hq; have := hm6.size; have := hm7.size; have := hm8.size; omega) (by omega)
    rw [show decide (keysM S = keysM S) = true from decide_eq_true rfl]
    simp (config := {maxSteps := 1000000, implicitDefEqProofs := false}) only [↓zvN, zvU, ↓zqD, ↓sk_nil, ↓sk_cons, ↓sk_guard, ↓sk_zero, ↓sk_one, ↓sk_two, ↓up_apply, ↓hv_apply, ↓upO_some, ↓upO_none, ↓ev_tmp, ↓ev_const, ↓ev_func, ↓ev_global, init, Nat.reduceEqDiff, Nat.reduceAdd, Nat.reduceMul, Nat.reduceSub, ↓reduceIte, Int.reduceEq, Int.reduceNe, Nat.reduceLeDiff, one, Value.cells, Int.reduceLE, Int.reduceLT, Int.reduceToNat, add_mk, reduceCtorEq, List.mem_range'_1, true_and, and_true, and_false, false_and, Nat.reduceLT, Nat.reduceLeDiff, tyF, tt, ff, tf, ft, wk, hkk]
    refine ⟨hk9, ?_⟩
    have j9 := hk9.blk (.inl rfl) j5
    have hH9 := (hH.more hm8).more hm9
    try simp (config := {maxSteps := 1000000, implicitDefEqProofs := false}) only [↓zvN, zvU, ↓zqD, ↓sk_nil, ↓sk_cons, ↓sk_guard, ↓sk_zero, ↓sk_one, ↓sk_two, ↓up_apply, ↓hv_apply, ↓upO_some, ↓upO_none, ↓ev_tmp, ↓ev_const, ↓ev_func, ↓ev_global, init, Nat.reduceEqDiff, Nat.reduceAdd, Nat.reduceMul, Nat.reduceSub, ↓reduceIte, Int.reduceEq, Int.reduceNe, Nat.reduceLeDiff, one, Value.cells, Int.reduceLE, Int.reduceLT, Int.reduceToNat, add_mk, reduceCtorEq, List.mem_range'_1, true_and, and_true, and_false, false_and, Nat.reduceLT, Nat.reduceLeDiff, tyF, tt, ff, tf, ft, wk, hkk]
    try simp (config := {maxSteps := 1000000, implicitDefEqProofs := false}) only [↓zvN, zvU, ↓up_apply, ↓hv_apply, ↓upO_some, ↓upO_none, ↓ev_tmp, ↓ev_const, ↓ev_func, ↓ev_global, init, Nat.reduceEqDiff, Nat.reduceAdd, Nat.reduceMul, Nat.reduceSub, ↓reduceIte, Int.reduceEq, Int.reduceNe, Nat.reduceLeDiff, one, Value.cells, Int.reduceLE, Int.reduceLT, Int.reduceToNat, add_mk, reduceCtorEq, List.mem_range'_1, true_and, and_true, and_false, false_and, Nat.reduceLT, Nat.reduceLeDiff, tyF, d0 j9, wk, hkk]
    have v9 := hH9.var.all_eq 5 rfl
    try simp (config := {maxSteps := 1000000, implicitDefEqProofs := false}) only [↓zvN, zvU, ↓up_apply, ↓hv_apply, ↓upO_some, ↓upO_none, ↓ev_tmp, ↓ev_const, ↓ev_func, ↓ev_global, init, Nat.reduceEqDiff, Nat.reduceAdd, Nat.reduceMul, Nat.reduceSub, ↓reduceIte, Int.reduceEq, Int.reduceNe, Nat.reduceLeDiff, one, Value.cells, Int.reduceLE, Int.reduceLT, Int.reduceToNat, add_mk, reduceCtorEq, List.mem_range'_1, true_and, and_true, and_false, false_and, Nat.reduceLT, Nat.reduceLeDiff, tyF, d0 j9, d9 j9, v9, wk, hkk]
    refine call_ok Try.call38 (ref_sweep w9 A L c r u ra bu a.now hH9.rows hPO hl64) ?_
    rintro _ w10 ⟨A', c', rfl, hc', hA', hg', hm10⟩
    rw [hS] at hA' ⊢
    simp (config := {maxSteps := 1000000, implicitDefEqProofs := false}) only [↓zvN, zvU, ↓up_apply, ↓hv_apply, ↓upO_some, ↓upO_none, ↓ev_tmp, ↓ev_const, ↓ev_func, ↓ev_global, init, Nat.reduceEqDiff, Nat.reduceAdd, Nat.reduceMul, Nat.reduceSub, ↓reduceIte, Int.reduceEq, Int.reduceNe, Nat.reduceLeDiff, one, Value.cells, Int.reduceLE, Int.reduceLT, Int.reduceToNat, add_mk, reduceCtorEq, List.mem_range'_1, true_and, and_true, and_false, false_and, Nat.reduceLT, Nat.reduceLeDiff, tyF]
    refine st_all (hH9.var.more hm10) rfl rfl (rbox_one _ _ _ _ _ _ _) fun w11 k1 k2 => ?_
    rw [s2_undef]
    rw [List.toList_toArray] at k2
    have hP11 := hH9.close hm10 hA' hg' k1 k2
    have hm011 : More w w11 := k1.below (((hm07.trans hm8).trans hm9).trans hm10) hd0
    simp (config := {maxSteps := 1000000, implicitDefEqProofs := false}) only [↓zvN, zvU, ↓up_apply, ↓hv_apply, ↓upO_some, ↓upO_none, ↓ev_tmp, ↓ev_const, ↓ev_func, ↓ev_global, init, Nat.reduceEqDiff, Nat.reduceAdd, Nat.reduceMul, Nat.reduceSub, ↓reduceIte, Int.reduceEq, Int.reduceNe, Nat.reduceLeDiff, one, Value.cells, Int.reduceLE, Int.reduceLT, Int.reduceToNat, add_mk, reduceCtorEq, List.mem_range'_1, true_and, and_true, and_false, false_and, Nat.reduceLT, Nat.reduceLeDiff, tyF, h96, ek]
    refine ⟨⟨?_, k + 1, S, rfl, by omega, hP11, hql2, hm011⟩, by simp only [numOf]; omega⟩
    repeat (first | exact Same.hv _ _ _ | refine Same.hv2 (fun s hs => mem_all22 (by decide) hs) ?_ | refine Same.up (by simp) ?_)
theorem box_plays_1 (w : World) (r u ra bu : Int) (A0 : Option Addr) (l : List Act22) (c0 : Nat) (hl : l.length ≤ 100) (h1 : r < 1) :
    Ret Try.prog 9 #[.int .i64 r, .int .i64 u, .int .i64 ra, .int .i64 bu, .slice A0 l.length c0] w fun v w' => v = .bool true ∧ More w w' := by
  have h100 : ¬ (100 : Int) < (l.length : Int) := by omega
  refine ret_of Try.func9 rfl (by kernel_rfl) (Nat.le_of_ble_eq_true (by kernel_rfl)) ?_
  simp (config := {maxSteps := 1000000, implicitDefEqProofs := false}) only [↓zvN, zvU, ↓up_apply, ↓hv_apply, ↓upO_some, ↓upO_none, ↓ev_tmp, ↓ev_const, ↓ev_func, ↓ev_global, init, Nat.reduceEqDiff, Nat.reduceAdd, Nat.reduceMul, Nat.reduceSub, ↓reduceIte, Int.reduceEq, Int.reduceNe, Nat.reduceLeDiff, one, Value.cells, Int.reduceLE, Int.reduceLT, Int.reduceToNat, add_mk, reduceCtorEq, List.mem_range'_1, true_and, and_true, and_false, false_and, Nat.reduceLT, Nat.reduceLeDiff, tyF]
  refine call_ok Try.call30 (awake22 _) ?_
  rintro _ w1 ⟨rfl, hm1⟩
  simp (config := {maxSteps := 1000000, implicitDefEqProofs := false}) only [↓zvN, zvU, ↓up_apply, ↓hv_apply, ↓upO_some, ↓upO_none, ↓ev_tmp, ↓ev_const, ↓ev_func, ↓ev_global, init, Nat.reduceEqDiff, Nat.reduceAdd, Nat.reduceMul, Nat.reduceSub, ↓reduceIte, Int.reduceEq, Int.reduceNe, Nat.reduceLeDiff, one, Value.cells, Int.reduceLE, Int.reduceLT, Int.reduceToNat, add_mk, reduceCtorEq, List.mem_range'_1, true_and, and_true, and_false, false_and, Nat.reduceLT, Nat.reduceLeDiff, tyF, h100]
  refine call_ok Try.call31 (box_new w1 r u ra bu) ?_
  rintro _ w2 ⟨hm2, _, hno⟩
  obtain rfl := hno (fun h => by unfold boxOk tokOk at h; omega)
  clear hno
  have np := nil_put w2 prefZ 0 rfl
  have ni := fun w3 => nil_in w3 prefZ 0 rfl
  have p0 := pref0 w2
  obtain ⟨zz, hzz⟩ : ∃ zz, prefZ.cells.toArray = zz := ⟨_, rfl⟩
  rw [hzz] at np
  simp only [hzz] at ni p0
  clear hzz
  simp (config := {maxSteps := 1000000, implicitDefEqProofs := false}) only [↓zvN, zvU, ↓up_apply, ↓hv_apply, ↓upO_some, ↓upO_none, ↓ev_tmp, ↓ev_const, ↓ev_func, ↓ev_global, init, Nat.reduceEqDiff, Nat.reduceAdd, Nat.reduceMul, Nat.reduceSub, ↓reduceIte, Int.reduceEq, Int.reduceNe, Nat.reduceLeDiff, one, Value.cells, Int.reduceLE, Int.reduceLT, Int.reduceToNat, add_mk, reduceCtorEq, List.mem_range'_1, true_and, and_true, and_false, false_and, Nat.reduceLT, Nat.reduceLeDiff, tyF, h1, p0]
  refine call_ok Try.call32 np ?_
  rintro _ w3 ⟨rfl, hm3⟩
  simp (config := {maxSteps := 1000000, implicitDefEqProofs := false}) only [↓zvN, zvU, ↓up_apply, ↓hv_apply, ↓upO_some, ↓upO_none, ↓ev_tmp, ↓ev_const, ↓ev_func, ↓ev_global, init, Nat.reduceEqDiff, Nat.reduceAdd, Nat.reduceMul, Nat.reduceSub, ↓reduceIte, Int.reduceEq, Int.reduceNe, Nat.reduceLeDiff, one, Value.cells, Int.reduceLE, Int.reduceLT, Int.reduceToNat, add_mk, reduceCtorEq, List.mem_range'_1, true_and, and_true, and_false, false_and, Nat.reduceLT, Nat.reduceLeDiff, tyF, p0]
  refine call_ok Try.call33 (ni w3) ?_
  rintro _ w4 ⟨rfl, hm4⟩
  simp (config := {maxSteps := 1000000, implicitDefEqProofs := false}) only [↓zvN, zvU, ↓up_apply, ↓hv_apply, ↓upO_some, ↓upO_none, ↓ev_tmp, ↓ev_const, ↓ev_func, ↓ev_global, init, Nat.reduceEqDiff, Nat.reduceAdd, Nat.reduceMul, Nat.reduceSub, ↓reduceIte, Int.reduceEq, Int.reduceNe, Nat.reduceLeDiff, one, Value.cells, Int.reduceLE, Int.reduceLT, Int.reduceToNat, add_mk, reduceCtorEq, List.mem_range'_1, true_and, and_true, and_false, false_and, Nat.reduceLT, Nat.reduceLeDiff, tyF]
  refine call_ok Try.call36 (nil_all _ 0) ?_
  rintro _ w5 ⟨rfl, hm5⟩
  simp (config := {maxSteps := 1000000, implicitDefEqProofs := false}) only [↓zvN, zvU, ↓up_apply, ↓hv_apply, ↓upO_some, ↓upO_none, ↓ev_tmp, ↓ev_const, ↓ev_func, ↓ev_global, init, Nat.reduceEqDiff, Nat.reduceAdd, Nat.reduceMul, Nat.reduceSub, ↓reduceIte, Int.reduceEq, Int.reduceNe, Nat.reduceLeDiff, one, Value.cells, Int.reduceLE, Int.reduceLT, Int.reduceToNat, add_mk, reduceCtorEq, List.mem_range'_1, true_and, and_true, and_false, false_and, Nat.reduceLT, Nat.reduceLeDiff, tyF]
  exact ⟨rfl, ((hm1.trans hm2).trans hm3).trans (hm4.trans hm5)⟩
theorem box_plays_2 (w : World) (r u ra bu : Int) (A0 : Option Addr) (l : List Act22) (c0 : Nat) (hl : l.length ≤ 100) (h1 : ¬ r < 1) (h2 : (64 : Int) < r) :
    Ret Try.prog 9 #[.int .i64 r, .int .i64 u, .int .i64 ra, .int .i64 bu, .slice A0 l.length c0] w fun v w' => v = .bool true ∧ More w w' := by
  have h100 : ¬ (100 : Int) < (l.length : Int) := by omega
  refine ret_of Try.func9 rfl (by kernel_rfl) (Nat.le_of_ble_eq_true (by kernel_rfl)) ?_
  simp (config := {maxSteps := 1000000, implicitDefEqProofs := false}) only [↓zvN, zvU, ↓up_apply, ↓hv_apply, ↓upO_some, ↓upO_none, ↓ev_tmp, ↓ev_const, ↓ev_func, ↓ev_global, init, Nat.reduceEqDiff, Nat.reduceAdd, Nat.reduceMul, Nat.reduceSub, ↓reduceIte, Int.reduceEq, Int.reduceNe, Nat.reduceLeDiff, one, Value.cells, Int.reduceLE, Int.reduceLT, Int.reduceToNat, add_mk, reduceCtorEq, List.mem_range'_1, true_and, and_true, and_false, false_and, Nat.reduceLT, Nat.reduceLeDiff, tyF]
  refine call_ok Try.call30 (awake22 _) ?_
  rintro _ w1 ⟨rfl, hm1⟩
  simp (config := {maxSteps := 1000000, implicitDefEqProofs := false}) only [↓zvN, zvU, ↓up_apply, ↓hv_apply, ↓upO_some, ↓upO_none, ↓ev_tmp, ↓ev_const, ↓ev_func, ↓ev_global, init, Nat.reduceEqDiff, Nat.reduceAdd, Nat.reduceMul, Nat.reduceSub, ↓reduceIte, Int.reduceEq, Int.reduceNe, Nat.reduceLeDiff, one, Value.cells, Int.reduceLE, Int.reduceLT, Int.reduceToNat, add_mk, reduceCtorEq, List.mem_range'_1, true_and, and_true, and_false, false_and, Nat.reduceLT, Nat.reduceLeDiff, tyF, h100]
  refine call_ok Try.call31 (box_new w1 r u ra bu) ?_
  rintro _ w2 ⟨hm2, _, hno⟩
  obtain rfl := hno (fun h => by unfold boxOk tokOk at h; omega)
  clear hno
  have np := nil_put w2 prefZ 0 rfl
  have ni := fun w3 => nil_in w3 prefZ 0 rfl
  have p0 := pref0 w2
  obtain ⟨zz, hzz⟩ : ∃ zz, prefZ.cells.toArray = zz := ⟨_, rfl⟩
  rw [hzz] at np
  simp only [hzz] at ni p0
  clear hzz
  simp (config := {maxSteps := 1000000, implicitDefEqProofs := false}) only [↓zvN, zvU, ↓up_apply, ↓hv_apply, ↓upO_some, ↓upO_none, ↓ev_tmp, ↓ev_const, ↓ev_func, ↓ev_global, init, Nat.reduceEqDiff, Nat.reduceAdd, Nat.reduceMul, Nat.reduceSub, ↓reduceIte, Int.reduceEq, Int.reduceNe, Nat.reduceLeDiff, one, Value.cells, Int.reduceLE, Int.reduceLT, Int.reduceToNat, add_mk, reduceCtorEq, List.mem_range'_1, true_and, and_true, and_false, false_and, Nat.reduceLT, Nat.reduceLeDiff, tyF, h1, h2, p0]
  refine call_ok Try.call32 np ?_
  rintro _ w3 ⟨rfl, hm3⟩
  simp (config := {maxSteps := 1000000, implicitDefEqProofs := false}) only [↓zvN, zvU, ↓up_apply, ↓hv_apply, ↓upO_some, ↓upO_none, ↓ev_tmp, ↓ev_const, ↓ev_func, ↓ev_global, init, Nat.reduceEqDiff, Nat.reduceAdd, Nat.reduceMul, Nat.reduceSub, ↓reduceIte, Int.reduceEq, Int.reduceNe, Nat.reduceLeDiff, one, Value.cells, Int.reduceLE, Int.reduceLT, Int.reduceToNat, add_mk, reduceCtorEq, List.mem_range'_1, true_and, and_true, and_false, false_and, Nat.reduceLT, Nat.reduceLeDiff, tyF, p0]
  refine call_ok Try.call33 (ni w3) ?_
  rintro _ w4 ⟨rfl, hm4⟩
  simp (config := {maxSteps := 1000000, implicitDefEqProofs := false}) only [↓zvN, zvU, ↓up_apply, ↓hv_apply, ↓upO_some, ↓upO_none, ↓ev_tmp, ↓ev_const, ↓ev_func, ↓ev_global, init, Nat.reduceEqDiff, Nat.reduceAdd, Nat.reduceMul, Nat.reduceSub, ↓reduceIte, Int.reduceEq, Int.reduceNe, Nat.reduceLeDiff, one, Value.cells, Int.reduceLE, Int.reduceLT, Int.reduceToNat, add_mk, reduceCtorEq, List.mem_range'_1, true_and, and_true, and_false, false_and, Nat.reduceLT, Nat.reduceLeDiff, tyF]
  refine call_ok Try.call36 (nil_all _ 0) ?_
  rintro _ w5 ⟨rfl, hm5⟩
  simp (config := {maxSteps := 1000000, implicitDefEqProofs := false}) only [↓zvN, zvU, ↓up_apply, ↓hv_apply, ↓upO_some, ↓upO_none, ↓ev_tmp, ↓ev_const, ↓ev_func, ↓ev_global, init, Nat.reduceEqDiff, Nat.reduceAdd, Nat.reduceMul, Nat.reduceSub, ↓reduceIte, Int.reduceEq, Int.reduceNe, Nat.reduceLeDiff, one, Value.cells, Int.reduceLE, Int.reduceLT, Int.reduceToNat, add_mk, reduceCtorEq, List.mem_range'_1, true_and, and_true, and_false, false_and, Nat.reduceLT, Nat.reduceLeDiff, tyF]
  exact ⟨rfl, ((hm1.trans hm2).trans hm3).trans (hm4.trans hm5)⟩
theorem box_plays_3 (w : World) (r u ra bu : Int) (A0 : Option Addr) (l : List Act22) (c0 : Nat) (hl : l.length ≤ 100) (h1 : ¬ r < 1) (h2 : ¬ (64 : Int) < r) (h3 : u < 1) :
    Ret Try.prog 9 #[.int .i64 r, .int .i64 u, .int .i64 ra, .int .i64 bu, .slice A0 l.length c0] w fun v w' => v = .bool true ∧ More w w' := by
  have h100 : ¬ (100 : Int) < (l.length : Int) := by omega
  refine ret_of Try.func9 rfl (by kernel_rfl) (Nat.le_of_ble_eq_true (by kernel_rfl)) ?_
  simp (config := {maxSteps := 1000000, implicitDefEqProofs := false}) only [↓zvN, zvU, ↓up_apply, ↓hv_apply, ↓upO_some, ↓upO_none, ↓ev_tmp, ↓ev_const, ↓ev_func, ↓ev_global, init, Nat.reduceEqDiff, Nat.reduceAdd, Nat.reduceMul, Nat.reduceSub, ↓reduceIte, Int.reduceEq, Int.reduceNe, Nat.reduceLeDiff, one, Value.cells, Int.reduceLE, Int.reduceLT, Int.reduceToNat, add_mk, reduceCtorEq, List.mem_range'_1, true_and, and_true, and_false, false_and, Nat.reduceLT, Nat.reduceLeDiff, tyF]
  refine call_ok Try.call30 (awake22 _) ?_
  rintro _ w1 ⟨rfl, hm1⟩
  simp (config := {maxSteps := 1000000, implicitDefEqProofs := false}) only [↓zvN, zvU, ↓up_apply, ↓hv_apply, ↓upO_some, ↓upO_none, ↓ev_tmp, ↓ev_const, ↓ev_func, ↓ev_global, init, Nat.reduceEqDiff, Nat.reduceAdd, Nat.reduceMul, Nat.reduceSub, ↓reduceIte, Int.reduceEq, Int.reduceNe, Nat.reduceLeDiff, one, Value.cells, Int.reduceLE, Int.reduceLT, Int.reduceToNat, add_mk, reduceCtorEq, List.mem_range'_1, true_and, and_true, and_false, false_and, Nat.reduceLT, Nat.reduceLeDiff, tyF, h100]
  refine call_ok Try.call31 (box_new w1 r u ra bu) ?_
  rintro _ w2 ⟨hm2, _, hno⟩
  obtain rfl := hno (fun h => by unfold boxOk tokOk at h; omega)
  clear hno
  have np := nil_put w2 prefZ 0 rfl
  have ni := fun w3 => nil_in w3 prefZ 0 rfl
  have p0 := pref0 w2
  obtain ⟨zz, hzz⟩ : ∃ zz, prefZ.cells.toArray = zz := ⟨_, rfl⟩
  rw [hzz] at np
  simp only [hzz] at ni p0
  clear hzz
  simp (config := {maxSteps := 1000000, implicitDefEqProofs := false}) only [↓zvN, zvU, ↓up_apply, ↓hv_apply, ↓upO_some, ↓upO_none, ↓ev_tmp, ↓ev_const, ↓ev_func, ↓ev_global, init, Nat.reduceEqDiff, Nat.reduceAdd, Nat.reduceMul, Nat.reduceSub, ↓reduceIte, Int.reduceEq, Int.reduceNe, Nat.reduceLeDiff, one, Value.cells, Int.reduceLE, Int.reduceLT, Int.reduceToNat, add_mk, reduceCtorEq, List.mem_range'_1, true_and, and_true, and_false, false_and, Nat.reduceLT, Nat.reduceLeDiff, tyF, h1, h2, h3, p0]
  refine call_ok Try.call32 np ?_
  rintro _ w3 ⟨rfl, hm3⟩
  simp (config := {maxSteps := 1000000, implicitDefEqProofs := false}) only [↓zvN, zvU, ↓up_apply, ↓hv_apply, ↓upO_some, ↓upO_none, ↓ev_tmp, ↓ev_const, ↓ev_func, ↓ev_global, init, Nat.reduceEqDiff, Nat.reduceAdd, Nat.reduceMul, Nat.reduceSub, ↓reduceIte, Int.reduceEq, Int.reduceNe, Nat.reduceLeDiff, one, Value.cells, Int.reduceLE, Int.reduceLT, Int.reduceToNat, add_mk, reduceCtorEq, List.mem_range'_1, true_and, and_true, and_false, false_and, Nat.reduceLT, Nat.reduceLeDiff, tyF, p0]
  refine call_ok Try.call33 (ni w3) ?_
  rintro _ w4 ⟨rfl, hm4⟩
  simp (config := {maxSteps := 1000000, implicitDefEqProofs := false}) only [↓zvN, zvU, ↓up_apply, ↓hv_apply, ↓upO_some, ↓upO_none, ↓ev_tmp, ↓ev_const, ↓ev_func, ↓ev_global, init, Nat.reduceEqDiff, Nat.reduceAdd, Nat.reduceMul, Nat.reduceSub, ↓reduceIte, Int.reduceEq, Int.reduceNe, Nat.reduceLeDiff, one, Value.cells, Int.reduceLE, Int.reduceLT, Int.reduceToNat, add_mk, reduceCtorEq, List.mem_range'_1, true_and, and_true, and_false, false_and, Nat.reduceLT, Nat.reduceLeDiff, tyF]
  refine call_ok Try.call36 (nil_all _ 0) ?_
  rintro _ w5 ⟨rfl, hm5⟩
  simp (config := {maxSteps := 1000000, implicitDefEqProofs := false}) only [↓zvN, zvU, ↓up_apply, ↓hv_apply, ↓upO_some, ↓upO_none, ↓ev_tmp, ↓ev_const, ↓ev_func, ↓ev_global, init, Nat.reduceEqDiff, Nat.reduceAdd, Nat.reduceMul, Nat.reduceSub, ↓reduceIte, Int.reduceEq, Int.reduceNe, Nat.reduceLeDiff, one, Value.cells, Int.reduceLE, Int.reduceLT, Int.reduceToNat, add_mk, reduceCtorEq, List.mem_range'_1, true_and, and_true, and_false, false_and, Nat.reduceLT, Nat.reduceLeDiff, tyF]
  exact ⟨rfl, ((hm1.trans hm2).trans hm3).trans (hm4.trans hm5)⟩
theorem box_plays_4 (w : World) (r u ra bu : Int) (A0 : Option Addr) (l : List Act22) (c0 : Nat) (hl : l.length ≤ 100) (h1 : ¬ r < 1) (h2 : ¬ (64 : Int) < r) (h3 : ¬ u < 1) (h4 : (4611686018427387903 : Int) < u) :
    Ret Try.prog 9 #[.int .i64 r, .int .i64 u, .int .i64 ra, .int .i64 bu, .slice A0 l.length c0] w fun v w' => v = .bool true ∧ More w w' := by
  have h100 : ¬ (100 : Int) < (l.length : Int) := by omega
  refine ret_of Try.func9 rfl (by kernel_rfl) (Nat.le_of_ble_eq_true (by kernel_rfl)) ?_
  simp (config := {maxSteps := 1000000, implicitDefEqProofs := false}) only [↓zvN, zvU, ↓up_apply, ↓hv_apply, ↓upO_some, ↓upO_none, ↓ev_tmp, ↓ev_const, ↓ev_func, ↓ev_global, init, Nat.reduceEqDiff, Nat.reduceAdd, Nat.reduceMul, Nat.reduceSub, ↓reduceIte, Int.reduceEq, Int.reduceNe, Nat.reduceLeDiff, one, Value.cells, Int.reduceLE, Int.reduceLT, Int.reduceToNat, add_mk, reduceCtorEq, List.mem_range'_1, true_and, and_true, and_false, false_and, Nat.reduceLT, Nat.reduceLeDiff, tyF]
  refine call_ok Try.call30 (awake22 _) ?_
  rintro _ w1 ⟨rfl, hm1⟩
  simp (config := {maxSteps := 1000000, implicitDefEqProofs := false}) only [↓zvN, zvU, ↓up_apply, ↓hv_apply, ↓upO_some, ↓upO_none, ↓ev_tmp, ↓ev_const, ↓ev_func, ↓ev_global, init, Nat.reduceEqDiff, Nat.reduceAdd, Nat.reduceMul, Nat.reduceSub, ↓reduceIte, Int.reduceEq, Int.reduceNe, Nat.reduceLeDiff, one, Value.cells, Int.reduceLE, Int.reduceLT, Int.reduceToNat, add_mk, reduceCtorEq, List.mem_range'_1, true_and, and_true, and_false, false_and, Nat.reduceLT, Nat.reduceLeDiff, tyF, h100]
  refine call_ok Try.call31 (box_new w1 r u ra bu) ?_
  rintro _ w2 ⟨hm2, _, hno⟩
  obtain rfl := hno (fun h => by unfold boxOk tokOk at h; omega)
  clear hno
  have np := nil_put w2 prefZ 0 rfl
  have ni := fun w3 => nil_in w3 prefZ 0 rfl
  have p0 := pref0 w2
  obtain ⟨zz, hzz⟩ : ∃ zz, prefZ.cells.toArray = zz := ⟨_, rfl⟩
  rw [hzz] at np
  simp only [hzz] at ni p0
  clear hzz
  simp (config := {maxSteps := 1000000, implicitDefEqProofs := false}) only [↓zvN, zvU, ↓up_apply, ↓hv_apply, ↓upO_some, ↓upO_none, ↓ev_tmp, ↓ev_const, ↓ev_func, ↓ev_global, init, Nat.reduceEqDiff, Nat.reduceAdd, Nat.reduceMul, Nat.reduceSub, ↓reduceIte, Int.reduceEq, Int.reduceNe, Nat.reduceLeDiff, one, Value.cells, Int.reduceLE, Int.reduceLT, Int.reduceToNat, add_mk, reduceCtorEq, List.mem_range'_1, true_and, and_true, and_false, false_and, Nat.reduceLT, Nat.reduceLeDiff, tyF, h1, h2, h3, h4, p0]
  refine call_ok Try.call32 np ?_
  rintro _ w3 ⟨rfl, hm3⟩
  simp (config := {maxSteps := 1000000, implicitDefEqProofs := false}) only [↓zvN, zvU, ↓up_apply, ↓hv_apply, ↓upO_some, ↓upO_none, ↓ev_tmp, ↓ev_const, ↓ev_func, ↓ev_global, init, Nat.reduceEqDiff, Nat.reduceAdd, Nat.reduceMul, Nat.reduceSub, ↓reduceIte, Int.reduceEq, Int.reduceNe, Nat.reduceLeDiff, one, Value.cells, Int.reduceLE, Int.reduceLT, Int.reduceToNat, add_mk, reduceCtorEq, List.mem_range'_1, true_and, and_true, and_false, false_and, Nat.reduceLT, Nat.reduceLeDiff, tyF, p0]
  refine call_ok Try.call33 (ni w3) ?_
  rintro _ w4 ⟨rfl, hm4⟩
  simp (config := {maxSteps := 1000000, implicitDefEqProofs := false}) only [↓zvN, zvU, ↓up_apply, ↓hv_apply, ↓upO_some, ↓upO_none, ↓ev_tmp, ↓ev_const, ↓ev_func, ↓ev_global, init, Nat.reduceEqDiff, Nat.reduceAdd, Nat.reduceMul, Nat.reduceSub, ↓reduceIte, Int.reduceEq, Int.reduceNe, Nat.reduceLeDiff, one, Value.cells, Int.reduceLE, Int.reduceLT, Int.reduceToNat, add_mk, reduceCtorEq, List.mem_range'_1, true_and, and_true, and_false, false_and, Nat.reduceLT, Nat.reduceLeDiff, tyF]
  refine call_ok Try.call36 (nil_all _ 0) ?_
  rintro _ w5 ⟨rfl, hm5⟩
  simp (config := {maxSteps := 1000000, implicitDefEqProofs := false}) only [↓zvN, zvU, ↓up_apply, ↓hv_apply, ↓upO_some, ↓upO_none, ↓ev_tmp, ↓ev_const, ↓ev_func, ↓ev_global, init, Nat.reduceEqDiff, Nat.reduceAdd, Nat.reduceMul, Nat.reduceSub, ↓reduceIte, Int.reduceEq, Int.reduceNe, Nat.reduceLeDiff, one, Value.cells, Int.reduceLE, Int.reduceLT, Int.reduceToNat, add_mk, reduceCtorEq, List.mem_range'_1, true_and, and_true, and_false, false_and, Nat.reduceLT, Nat.reduceLeDiff, tyF]
  exact ⟨rfl, ((hm1.trans hm2).trans hm3).trans (hm4.trans hm5)⟩
theorem box_plays_5 (w : World) (r u ra bu : Int) (A0 : Option Addr) (l : List Act22) (c0 : Nat) (hl : l.length ≤ 100) (h1 : ¬ r < 1) (h2 : ¬ (64 : Int) < r) (h3 : ¬ u < 1) (h4 : ¬ (4611686018427387903 : Int) < u) (h5 : ra < 0) :
    Ret Try.prog 9 #[.int .i64 r, .int .i64 u, .int .i64 ra, .int .i64 bu, .slice A0 l.length c0] w fun v w' => v = .bool true ∧ More w w' := by
  have h100 : ¬ (100 : Int) < (l.length : Int) := by omega
  refine ret_of Try.func9 rfl (by kernel_rfl) (Nat.le_of_ble_eq_true (by kernel_rfl)) ?_
  simp (config := {maxSteps := 1000000, implicitDefEqProofs := false}) only [↓zvN, zvU, ↓up_apply, ↓hv_apply, ↓upO_some, ↓upO_none, ↓ev_tmp, ↓ev_const, ↓ev_func, ↓ev_global, init, Nat.reduceEqDiff, Nat.reduceAdd, Nat.reduceMul, Nat.reduceSub, ↓reduceIte, Int.reduceEq, Int.reduceNe, Nat.reduceLeDiff, one, Value.cells, Int.reduceLE, Int.reduceLT, Int.reduceToNat, add_mk, reduceCtorEq, List.mem_range'_1, true_and, and_true, and_false, false_and, Nat.reduceLT, Nat.reduceLeDiff, tyF]
  refine call_ok Try.call30 (awake22 _) ?_
  rintro _ w1 ⟨rfl, hm1⟩
  simp (config := {maxSteps := 1000000, implicitDefEqProofs := false}) only [↓zvN, zvU, ↓up_apply, ↓hv_apply, ↓upO_some, ↓upO_none, ↓ev_tmp, ↓ev_const, ↓ev_func, ↓ev_global, init, Nat.reduceEqDiff, Nat.reduceAdd, Nat.reduceMul, Nat.reduceSub, ↓reduceIte, Int.reduceEq, Int.reduceNe, Nat.reduceLeDiff, one, Value.cells, Int.reduceLE, Int.reduceLT, Int.reduceToNat, add_mk, reduceCtorEq, List.mem_range'_1, true_and, and_true, and_false, false_and, Nat.reduceLT, Nat.reduceLeDiff, tyF, h100]
  refine call_ok Try.call31 (box_new w1 r u ra bu) ?_
  rintro _ w2 ⟨hm2, _, hno⟩
  obtain rfl := hno (fun h => by unfold boxOk tokOk at h; omega)
  clear hno
  have np := nil_put w2 prefZ 0 rfl
  have ni := fun w3 => nil_in w3 prefZ 0 rfl
  have p0 := pref0 w2
  obtain ⟨zz, hzz⟩ : ∃ zz, prefZ.cells.toArray = zz := ⟨_, rfl⟩
  rw [hzz] at np
  simp only [hzz] at ni p0
  clear hzz
  simp (config := {maxSteps := 1000000, implicitDefEqProofs := false}) only [↓zvN, zvU, ↓up_apply, ↓hv_apply, ↓upO_some, ↓upO_none, ↓ev_tmp, ↓ev_const, ↓ev_func, ↓ev_global, init, Nat.reduceEqDiff, Nat.reduceAdd, Nat.reduceMul, Nat.reduceSub, ↓reduceIte, Int.reduceEq, Int.reduceNe, Nat.reduceLeDiff, one, Value.cells, Int.reduceLE, Int.reduceLT, Int.reduceToNat, add_mk, reduceCtorEq, List.mem_range'_1, true_and, and_true, and_false, false_and, Nat.reduceLT, Nat.reduceLeDiff, tyF, h1, h2, h3, h4, h5, p0]
  refine call_ok Try.call32 np ?_
  rintro _ w3 ⟨rfl, hm3⟩
  simp (config := {maxSteps := 1000000, implicitDefEqProofs := false}) only [↓zvN, zvU, ↓up_apply, ↓hv_apply, ↓upO_some, ↓upO_none, ↓ev_tmp, ↓ev_const, ↓ev_func, ↓ev_global, init, Nat.reduceEqDiff, Nat.reduceAdd, Nat.reduceMul, Nat.reduceSub, ↓reduceIte, Int.reduceEq, Int.reduceNe, Nat.reduceLeDiff, one, Value.cells, Int.reduceLE, Int.reduceLT, Int.reduceToNat, add_mk, reduceCtorEq, List.mem_range'_1, true_and, and_true, and_false, false_and, Nat.reduceLT, Nat.reduceLeDiff, tyF, p0]
  refine call_ok Try.call33 (ni w3) ?_
  rintro _ w4 ⟨rfl, hm4⟩
  simp (config := {maxSteps := 1000000, implicitDefEqProofs := false}) only [↓zvN, zvU, ↓up_apply, ↓hv_apply, ↓upO_some, ↓upO_none, ↓ev_tmp, ↓ev_const, ↓ev_func, ↓ev_global, init, Nat.reduceEqDiff, Nat.reduceAdd, Nat.reduceMul, Nat.reduceSub, ↓reduceIte, Int.reduceEq, Int.reduceNe, Nat.reduceLeDiff, one, Value.cells, Int.reduceLE, Int.reduceLT, Int.reduceToNat, add_mk, reduceCtorEq, List.mem_range'_1, true_and, and_true, and_false, false_and, Nat.reduceLT, Nat.reduceLeDiff, tyF]
  refine call_ok Try.call36 (nil_all _ 0) ?_
  rintro _ w5 ⟨rfl, hm5⟩
  simp (config := {maxSteps := 1000000, implicitDefEqProofs := false}) only [↓zvN, zvU, ↓up_apply, ↓hv_apply, ↓upO_some, ↓upO_none, ↓ev_tmp, ↓ev_const, ↓ev_func, ↓ev_global, init, Nat.reduceEqDiff, Nat.reduceAdd, Nat.reduceMul, Nat.reduceSub, ↓reduceIte, Int.reduceEq, Int.reduceNe, Nat.reduceLeDiff, one, Value.cells, Int.reduceLE, Int.reduceLT, Int.reduceToNat, add_mk, reduceCtorEq, List.mem_range'_1, true_and, and_true, and_false, false_and, Nat.reduceLT, Nat.reduceLeDiff, tyF]
  exact ⟨rfl, ((hm1.trans hm2).trans hm3).trans (hm4.trans hm5)⟩
theorem box_plays_6 (w : World) (r u ra bu : Int) (A0 : Option Addr) (l : List Act22) (c0 : Nat) (hl : l.length ≤ 100) (h1 : ¬ r < 1) (h2 : ¬ (64 : Int) < r) (h3 : ¬ u < 1) (h4 : ¬ (4611686018427387903 : Int) < u) (h5 : ¬ ra < 0) (h6 : (1073741824 : Int) < ra) :
    Ret Try.prog 9 #[.int .i64 r, .int .i64 u, .int .i64 ra, .int .i64 bu, .slice A0 l.length c0] w fun v w' => v = .bool true ∧ More w w' := by
  have h100 : ¬ (100 : Int) < (l.length : Int) := by omega
  refine ret_of Try.func9 rfl (by kernel_rfl) (Nat.le_of_ble_eq_true (by kernel_rfl)) ?_
  simp (config := {maxSteps := 1000000, implicitDefEqProofs := false}) only [↓zvN, zvU, ↓up_apply, ↓hv_apply, ↓upO_some, ↓upO_none, ↓ev_tmp, ↓ev_const, ↓ev_func, ↓ev_global, init, Nat.reduceEqDiff, Nat.reduceAdd, Nat.reduceMul, Nat.reduceSub, ↓reduceIte, Int.reduceEq, Int.reduceNe, Nat.reduceLeDiff, one, Value.cells, Int.reduceLE, Int.reduceLT, Int.reduceToNat, add_mk, reduceCtorEq, List.mem_range'_1, true_and, and_true, and_false, false_and, Nat.reduceLT, Nat.reduceLeDiff, tyF]
  refine call_ok Try.call30 (awake22 _) ?_
  rintro _ w1 ⟨rfl, hm1⟩
  simp (config := {maxSteps := 1000000, implicitDefEqProofs := false}) only [↓zvN, zvU, ↓up_apply, ↓hv_apply, ↓upO_some, ↓upO_none, ↓ev_tmp, ↓ev_const, ↓ev_func, ↓ev_global, init, Nat.reduceEqDiff, Nat.reduceAdd, Nat.reduceMul, Nat.reduceSub, ↓reduceIte, Int.reduceEq, Int.reduceNe, Nat.reduceLeDiff, one, Value.cells, Int.reduceLE, Int.reduceLT, Int.reduceToNat, add_mk, reduceCtorEq, List.mem_range'_1, true_and, and_true, and_false, false_and, Nat.reduceLT, Nat.reduceLeDiff, tyF, h100]
  refine call_ok Try.call31 (box_new w1 r u ra bu) ?_
  rintro _ w2 ⟨hm2, _, hno⟩
  obtain rfl := hno (fun h => by unfold boxOk tokOk at h; omega)
  clear hno
  have np := nil_put w2 prefZ 0 rfl
  have ni := fun w3 => nil_in w3 prefZ 0 rfl
  have p0 := pref0 w2
  obtain ⟨zz, hzz⟩ : ∃ zz, prefZ.cells.toArray = zz := ⟨_, rfl⟩
  rw [hzz] at np
  simp only [hzz] at ni p0
  clear hzz
  simp (config := {maxSteps := 1000000, implicitDefEqProofs := false}) only [↓zvN, zvU, ↓up_apply, ↓hv_apply, ↓upO_some, ↓upO_none, ↓ev_tmp, ↓ev_const, ↓ev_func, ↓ev_global, init, Nat.reduceEqDiff, Nat.reduceAdd, Nat.reduceMul, Nat.reduceSub, ↓reduceIte, Int.reduceEq, Int.reduceNe, Nat.reduceLeDiff, one, Value.cells, Int.reduceLE, Int.reduceLT, Int.reduceToNat, add_mk, reduceCtorEq, List.mem_range'_1, true_and, and_true, and_false, false_and, Nat.reduceLT, Nat.reduceLeDiff, tyF, h1, h2, h3, h4, h5, h6, p0]
  refine call_ok Try.call32 np ?_
  rintro _ w3 ⟨rfl, hm3⟩
  simp (config := {maxSteps := 1000000, implicitDefEqProofs := false}) only [↓zvN, zvU, ↓up_apply, ↓hv_apply, ↓upO_some, ↓upO_none, ↓ev_tmp, ↓ev_const, ↓ev_func, ↓ev_global, init, Nat.reduceEqDiff, Nat.reduceAdd, Nat.reduceMul, Nat.reduceSub, ↓reduceIte, Int.reduceEq, Int.reduceNe, Nat.reduceLeDiff, one, Value.cells, Int.reduceLE, Int.reduceLT, Int.reduceToNat, add_mk, reduceCtorEq, List.mem_range'_1, true_and, and_true, and_false, false_and, Nat.reduceLT, Nat.reduceLeDiff, tyF, p0]
  refine call_ok Try.call33 (ni w3) ?_
  rintro _ w4 ⟨rfl, hm4⟩
  simp (config := {maxSteps := 1000000, implicitDefEqProofs := false}) only [↓zvN, zvU, ↓up_apply, ↓hv_apply, ↓upO_some, ↓upO_none, ↓ev_tmp, ↓ev_const, ↓ev_func, ↓ev_global, init, Nat.reduceEqDiff, Nat.reduceAdd, Nat.reduceMul, Nat.reduceSub, ↓reduceIte, Int.reduceEq, Int.reduceNe, Nat.reduceLeDiff, one, Value.cells, Int.reduceLE, Int.reduceLT, Int.reduceToNat, add_mk, reduceCtorEq, List.mem_range'_1, true_and, and_true, and_false, false_and, Nat.reduceLT, Nat.reduceLeDiff, tyF]
  refine call_ok Try.call36 (nil_all _ 0) ?_
  rintro _ w5 ⟨rfl, hm5⟩
  simp (config := {maxSteps := 1000000, implicitDefEqProofs := false}) only [↓zvN, zvU, ↓up_apply, ↓hv_apply, ↓upO_some, ↓upO_none, ↓ev_tmp, ↓ev_const, ↓ev_func, ↓ev_global, init, Nat.reduceEqDiff, Nat.reduceAdd, Nat.reduceMul, Nat.reduceSub, ↓reduceIte, Int.reduceEq, Int.reduceNe, Nat.reduceLeDiff, one, Value.cells, Int.reduceLE, Int.reduceLT, Int.reduceToNat, add_mk, reduceCtorEq, List.mem_range'_1, true_and, and_true, and_false, false_and, Nat.reduceLT, Nat.reduceLeDiff, tyF]
  exact ⟨rfl, ((hm1.trans hm2).trans hm3).trans (hm4.trans hm5)⟩
theorem box_plays_7 (w : World) (r u ra bu : Int) (A0 : Option Addr) (l : List Act22) (c0 : Nat) (hl : l.length ≤ 100) (h1 : ¬ r < 1) (h2 : ¬ (64 : Int) < r) (h3 : ¬ u < 1) (h4 : ¬ (4611686018427387903 : Int) < u) (h5 : ¬ ra < 0) (h6 : ¬ (1073741824 : Int) < ra) (h7 : bu < 1) :
    Ret Try.prog 9 #[.int .i64 r, .int .i64 u, .int .i64 ra, .int .i64 bu, .slice A0 l.length c0] w fun v w' => v = .bool true ∧ More w w' := by
  have h100 : ¬ (100 : Int) < (l.length : Int) := by omega
  refine ret_of Try.func9 rfl (by kernel_rfl) (Nat.le_of_ble_eq_true (by kernel_rfl)) ?_
  simp (config := {maxSteps := 1000000, implicitDefEqProofs := false}) only [↓zvN, zvU, ↓up_apply, ↓hv_apply, ↓upO_some, ↓upO_none, ↓ev_tmp, ↓ev_const, ↓ev_func, ↓ev_global, init, Nat.reduceEqDiff, Nat.reduceAdd, Nat.reduceMul, Nat.reduceSub, ↓reduceIte, Int.reduceEq, Int.reduceNe, Nat.reduceLeDiff, one, Value.cells, Int.reduceLE, Int.reduceLT, Int.reduceToNat, add_mk, reduceCtorEq, List.mem_range'_1, true_and, and_true, and_false, false_and, Nat.reduceLT, Nat.reduceLeDiff, tyF]
  refine call_ok Try.call30 (awake22 _) ?_
  rintro _ w1 ⟨rfl, hm1⟩
  simp (config := {maxSteps := 1000000, implicitDefEqProofs := false}) only [↓zvN, zvU, ↓up_apply, ↓hv_apply, ↓upO_some, ↓upO_none, ↓ev_tmp, ↓ev_const, ↓ev_func, ↓ev_global, init, Nat.reduceEqDiff, Nat.reduceAdd, Nat.reduceMul, Nat.reduceSub, ↓reduceIte, Int.reduceEq, Int.reduceNe, Nat.reduceLeDiff, one, Value.cells, Int.reduceLE, Int.reduceLT, Int.reduceToNat, add_mk, reduceCtorEq, List.mem_range'_1, true_and, and_true, and_false, false_and, Nat.reduceLT, Nat.reduceLeDiff, tyF, h100]
  refine call_ok Try.call31 (box_new w1 r u ra bu) ?_
  rintro _ w2 ⟨hm2, _, hno⟩
  obtain rfl := hno (fun h => by unfold boxOk tokOk at h; omega)
  clear hno
  have np := nil_put w2 prefZ 0 rfl
  have ni := fun w3 => nil_in w3 prefZ 0 rfl
  have p0 := pref0 w2
  obtain ⟨zz, hzz⟩ : ∃ zz, prefZ.cells.toArray = zz := ⟨_, rfl⟩
  rw [hzz] at np
  simp only [hzz] at ni p0
  clear hzz
  simp (config := {maxSteps := 1000000, implicitDefEqProofs := false}) only [↓zvN, zvU, ↓up_apply, ↓hv_apply, ↓upO_some, ↓upO_none, ↓ev_tmp, ↓ev_const, ↓ev_func, ↓ev_global, init, Nat.reduceEqDiff, Nat.reduceAdd, Nat.reduceMul, Nat.reduceSub, ↓reduceIte, Int.reduceEq, Int.reduceNe, Nat.reduceLeDiff, one, Value.cells, Int.reduceLE, Int.reduceLT, Int.reduceToNat, add_mk, reduceCtorEq, List.mem_range'_1, true_and, and_true, and_false, false_and, Nat.reduceLT, Nat.reduceLeDiff, tyF, h1, h2, h3, h4, h5, h6, h7, p0]
  refine call_ok Try.call32 np ?_
  rintro _ w3 ⟨rfl, hm3⟩
  simp (config := {maxSteps := 1000000, implicitDefEqProofs := false}) only [↓zvN, zvU, ↓up_apply, ↓hv_apply, ↓upO_some, ↓upO_none, ↓ev_tmp, ↓ev_const, ↓ev_func, ↓ev_global, init, Nat.reduceEqDiff, Nat.reduceAdd, Nat.reduceMul, Nat.reduceSub, ↓reduceIte, Int.reduceEq, Int.reduceNe, Nat.reduceLeDiff, one, Value.cells, Int.reduceLE, Int.reduceLT, Int.reduceToNat, add_mk, reduceCtorEq, List.mem_range'_1, true_and, and_true, and_false, false_and, Nat.reduceLT, Nat.reduceLeDiff, tyF, p0]
  refine call_ok Try.call33 (ni w3) ?_
  rintro _ w4 ⟨rfl, hm4⟩
  simp (config := {maxSteps := 1000000, implicitDefEqProofs := false}) only [↓zvN, zvU, ↓up_apply, ↓hv_apply, ↓upO_some, ↓upO_none, ↓ev_tmp, ↓ev_const, ↓ev_func, ↓ev_global, init, Nat.reduceEqDiff, Nat.reduceAdd, Nat.reduceMul, Nat.reduceSub, ↓reduceIte, Int.reduceEq, Int.reduceNe, Nat.reduceLeDiff, one, Value.cells, Int.reduceLE, Int.reduceLT, Int.reduceToNat, add_mk, reduceCtorEq, List.mem_range'_1, true_and, and_true, and_false, false_and, Nat.reduceLT, Nat.reduceLeDiff, tyF]
  refine call_ok Try.call36 (nil_all _ 0) ?_
  rintro _ w5 ⟨rfl, hm5⟩
  simp (config := {maxSteps := 1000000, implicitDefEqProofs := false}) only [↓zvN, zvU, ↓up_apply, ↓hv_apply, ↓upO_some, ↓upO_none, ↓ev_tmp, ↓ev_const, ↓ev_func, ↓ev_global, init, Nat.reduceEqDiff, Nat.reduceAdd, Nat.reduceMul, Nat.reduceSub, ↓reduceIte, Int.reduceEq, Int.reduceNe, Nat.reduceLeDiff, one, Value.cells, Int.reduceLE, Int.reduceLT, Int.reduceToNat, add_mk, reduceCtorEq, List.mem_range'_1, true_and, and_true, and_false, false_and, Nat.reduceLT, Nat.reduceLeDiff, tyF]
  exact ⟨rfl, ((hm1.trans hm2).trans hm3).trans (hm4.trans hm5)⟩
theorem box_plays_8 (w : World) (r u ra bu : Int) (A0 : Option Addr) (l : List Act22) (c0 : Nat) (hl : l.length ≤ 100) (h1 : ¬ r < 1) (h2 : ¬ (64 : Int) < r) (h3 : ¬ u < 1) (h4 : ¬ (4611686018427387903 : Int) < u) (h5 : ¬ ra < 0) (h6 : ¬ (1073741824 : Int) < ra) (h7 : ¬ bu < 1) (h8 : (1073741824 : Int) < bu) :
    Ret Try.prog 9 #[.int .i64 r, .int .i64 u, .int .i64 ra, .int .i64 bu, .slice A0 l.length c0] w fun v w' => v = .bool true ∧ More w w' := by
  have h100 : ¬ (100 : Int) < (l.length : Int) := by omega
  refine ret_of Try.func9 rfl (by kernel_rfl) (Nat.le_of_ble_eq_true (by kernel_rfl)) ?_
  simp (config := {maxSteps := 1000000, implicitDefEqProofs := false}) only [↓zvN, zvU, ↓up_apply, ↓hv_apply, ↓upO_some, ↓upO_none, ↓ev_tmp, ↓ev_const, ↓ev_func, ↓ev_global, init, Nat.reduceEqDiff, Nat.reduceAdd, Nat.reduceMul, Nat.reduceSub, ↓reduceIte, Int.reduceEq, Int.reduceNe, Nat.reduceLeDiff, one, Value.cells, Int.reduceLE, Int.reduceLT, Int.reduceToNat, add_mk, reduceCtorEq, List.mem_range'_1, true_and, and_true, and_false, false_and, Nat.reduceLT, Nat.reduceLeDiff, tyF]
  refine call_ok Try.call30 (awake22 _) ?_
  rintro _ w1 ⟨rfl, hm1⟩
  simp (config := {maxSteps := 1000000, implicitDefEqProofs := false}) only [↓zvN, zvU, ↓up_apply, ↓hv_apply, ↓upO_some, ↓upO_none, ↓ev_tmp, ↓ev_const, ↓ev_func, ↓ev_global, init, Nat.reduceEqDiff, Nat.reduceAdd, Nat.reduceMul, Nat.reduceSub, ↓reduceIte, Int.reduceEq, Int.reduceNe, Nat.reduceLeDiff, one, Value.cells, Int.reduceLE, Int.reduceLT, Int.reduceToNat, add_mk, reduceCtorEq, List.mem_range'_1, true_and, and_true, and_false, false_and, Nat.reduceLT, Nat.reduceLeDiff, tyF, h100]
  refine call_ok Try.call31 (box_new w1 r u ra bu) ?_
  rintro _ w2 ⟨hm2, _, hno⟩
  obtain rfl := hno (fun h => by unfold boxOk tokOk at h; omega)
  clear hno
  have np := nil_put w2 prefZ 0 rfl
  have ni := fun w3 => nil_in w3 prefZ 0 rfl
  have p0 := pref0 w2
  obtain ⟨zz, hzz⟩ : ∃ zz, prefZ.cells.toArray = zz := ⟨_, rfl⟩
  rw [hzz] at np
  simp only [hzz] at ni p0
  clear hzz
  simp (config := {maxSteps := 1000000, implicitDefEqProofs := false}) only [↓zvN, zvU, ↓up_apply, ↓hv_apply, ↓upO_some, ↓upO_none, ↓ev_tmp, ↓ev_const, ↓ev_func, ↓ev_global, init, Nat.reduceEqDiff, Nat.reduceAdd, Nat.reduceMul, Nat.reduceSub, ↓reduceIte, Int.reduceEq, Int.reduceNe, Nat.reduceLeDiff, one, Value.cells, Int.reduceLE, Int.reduceLT, Int.reduceToNat, add_mk, reduceCtorEq, List.mem_range'_1, true_and, and_true, and_false, false_and, Nat.reduceLT, Nat.reduceLeDiff, tyF, h1, h2, h3, h4, h5, h6, h7, h8, p0]
  refine call_ok Try.call32 np ?_
  rintro _ w3 ⟨rfl, hm3⟩
  simp (config := {maxSteps := 1000000, implicitDefEqProofs := false}) only [↓zvN, zvU, ↓up_apply, ↓hv_apply, ↓upO_some, ↓upO_none, ↓ev_tmp, ↓ev_const, ↓ev_func, ↓ev_global, init, Nat.reduceEqDiff, Nat.reduceAdd, Nat.reduceMul, Nat.reduceSub, ↓reduceIte, Int.reduceEq, Int.reduceNe, Nat.reduceLeDiff, one, Value.cells, Int.reduceLE, Int.reduceLT, Int.reduceToNat, add_mk, reduceCtorEq, List.mem_range'_1, true_and, and_true, and_false, false_and, Nat.reduceLT, Nat.reduceLeDiff, tyF, p0]
  refine call_ok Try.call33 (ni w3) ?_
  rintro _ w4 ⟨rfl, hm4⟩
  simp (config := {maxSteps := 1000000, implicitDefEqProofs := false}) only [↓zvN, zvU, ↓up_apply, ↓hv_apply, ↓upO_some, ↓upO_none, ↓ev_tmp, ↓ev_const, ↓ev_func, ↓ev_global, init, Nat.reduceEqDiff, Nat.reduceAdd, Nat.reduceMul, Nat.reduceSub, ↓reduceIte, Int.reduceEq, Int.reduceNe, Nat.reduceLeDiff, one, Value.cells, Int.reduceLE, Int.reduceLT, Int.reduceToNat, add_mk, reduceCtorEq, List.mem_range'_1, true_and, and_true, and_false, false_and, Nat.reduceLT, Nat.reduceLeDiff, tyF]
  refine call_ok Try.call36 (nil_all _ 0) ?_
  rintro _ w5 ⟨rfl, hm5⟩
  simp (config := {maxSteps := 1000000, implicitDefEqProofs := false}) only [↓zvN, zvU, ↓up_apply, ↓hv_apply, ↓upO_some, ↓upO_none, ↓ev_tmp, ↓ev_const, ↓ev_func, ↓ev_global, init, Nat.reduceEqDiff, Nat.reduceAdd, Nat.reduceMul, Nat.reduceSub, ↓reduceIte, Int.reduceEq, Int.reduceNe, Nat.reduceLeDiff, one, Value.cells, Int.reduceLE, Int.reduceLT, Int.reduceToNat, add_mk, reduceCtorEq, List.mem_range'_1, true_and, and_true, and_false, false_and, Nat.reduceLT, Nat.reduceLeDiff, tyF]
  exact ⟨rfl, ((hm1.trans hm2).trans hm3).trans (hm4.trans hm5)⟩
theorem box_plays (w : World) (r u ra bu : Int) (A0 : Option Addr) (l : List Act22) (c0 : Nat) (hA0 : Cs w A0 (l.flatMap Act22.cells)) (hO : ∀ a ∈ l, a.Fit) :
    Ret Try.prog 9 #[.int .i64 r, .int .i64 u, .int .i64 ra, .int .i64 bu, .slice A0 l.length c0] w fun v w' => v = .bool true ∧ More w w' := by
  by_cases h100 : (100 : Int) < (l.length : Int)
  · refine ret_of Try.func9 rfl (by kernel_rfl) (Nat.le_of_ble_eq_true (by kernel_rfl)) ?_
    simp (config := {maxSteps := 1000000, implicitDefEqProofs := false}) only [↓zvN, zvU, ↓up_apply, ↓hv_apply, ↓upO_some, ↓upO_none, ↓ev_tmp, ↓ev_const, ↓ev_func, ↓ev_global, init, Nat.reduceEqDiff, Nat.reduceAdd, Nat.reduceMul, Nat.reduceSub, ↓reduceIte, Int.reduceEq, Int.reduceNe, Nat.reduceLeDiff, one, Value.cells, Int.reduceLE, Int.reduceLT, Int.reduceToNat, add_mk, reduceCtorEq, List.mem_range'_1, true_and, and_true, and_false, false_and, Nat.reduceLT, Nat.reduceLeDiff, tyF]
    refine call_ok Try.call30 (awake22 _) ?_
    rintro _ w1 ⟨rfl, hm1⟩
    simp (config := {maxSteps := 1000000, implicitDefEqProofs := false}) only [↓zvN, zvU, ↓up_apply, ↓hv_apply, ↓upO_some, ↓upO_none, ↓ev_tmp, ↓ev_const, ↓ev_func, ↓ev_global, init, Nat.reduceEqDiff, Nat.reduceAdd, Nat.reduceMul, Nat.reduceSub, ↓reduceIte, Int.reduceEq, Int.reduceNe, Nat.reduceLeDiff, one, Value.cells, Int.reduceLE, Int.reduceLT, Int.reduceToNat, add_mk, reduceCtorEq, List.mem_range'_1, true_and, and_true, and_false, false_and, Nat.reduceLT, Nat.reduceLeDiff, tyF, h100]
    refine call_ok Try.call30 (awake22 _) ?_
    rintro _ w2 ⟨rfl, hm2⟩
    simp (config := {maxSteps := 1000000, implicitDefEqProofs := false}) only [↓zvN, zvU, ↓up_apply, ↓hv_apply, ↓upO_some, ↓upO_none, ↓ev_tmp, ↓ev_const, ↓ev_func, ↓ev_global, init, Nat.reduceEqDiff, Nat.reduceAdd, Nat.reduceMul, Nat.reduceSub, ↓reduceIte, Int.reduceEq, Int.reduceNe, Nat.reduceLeDiff, one, Value.cells, Int.reduceLE, Int.reduceLT, Int.reduceToNat, add_mk, reduceCtorEq, List.mem_range'_1, true_and, and_true, and_false, false_and, Nat.reduceLT, Nat.reduceLeDiff, tyF]
    exact ⟨rfl, hm1.trans hm2⟩
  have hl : l.length ≤ 100 := by omega
  by_cases h1 : r < 1
  · exact box_plays_1 w r u ra bu A0 l c0 hl h1
  by_cases h2 : (64 : Int) < r
  · exact box_plays_2 w r u ra bu A0 l c0 hl h1 h2
  by_cases h3 : u < 1
  · exact box_plays_3 w r u ra bu A0 l c0 hl h1 h2 h3
  by_cases h4 : (4611686018427387903 : Int) < u
  · exact box_plays_4 w r u ra bu A0 l c0 hl h1 h2 h3 h4
  by_cases h5 : ra < 0
  · exact box_plays_5 w r u ra bu A0 l c0 hl h1 h2 h3 h4 h5
  by_cases h6 : (1073741824 : Int) < ra
  · exact box_plays_6 w r u ra bu A0 l c0 hl h1 h2 h3 h4 h5 h6
  by_cases h7 : bu < 1
  · exact box_plays_7 w r u ra bu A0 l c0 hl h1 h2 h3 h4 h5 h6 h7
  by_cases h8 : (1073741824 : Int) < bu
  · exact box_plays_8 w r u ra bu A0 l c0 hl h1 h2 h3 h4 h5 h6 h7 h8
  exact box_plays_in w r u ra bu A0 l c0 hA0 hO hl ⟨by omega, by omega, by unfold tokOk; omega⟩
end Go.Proofs.Ytimhcjakpdebjaa
