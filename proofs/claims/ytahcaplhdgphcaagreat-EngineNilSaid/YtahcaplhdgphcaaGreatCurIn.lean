/-
  Layer 2: taking bytes.
-/
import Derived.Test.YtahcaplhdgphcaaGreatCur
namespace Go.Proofs.YtahcaplhdgphcaaGreat
open Go Go.RowKit Go.Proofs.RV
set_option linter.unusedSimpArgs false
set_option linter.unusedVariables false

theorem inFields (f : Field) (h : f ∈ (#[{ name := "b", type := 40, offset := 0, embedded := false, tag := "", pkgPath := "bailiff/cursor", byteOffset := 0 }, { name := "bad", type := 4, offset := 1, embedded := false, tag := "", pkgPath := "bailiff/cursor", byteOffset := 24 }] : Array Field)) : Tryz.prog.cellsOf f.type ≠ 0 := by
  simp only [List.mem_toArray, List.mem_cons, List.not_mem_nil, or_false] at h
  rcases h with rfl | rfl <;> simp [cells40, cells4]
theorem in_build (A : Option Addr) (n c : Nat) (w0 : World) (K : Value → Prop) : pureP Tryz.prog (Instr.build 242 #[(0, .slice A n c)]) K = K (.agg #[.slice A n c, .bool false]) :=
  build_eq (out := [.slice A n c, .bool false]) Tryz.underlying242 zer242 inFields (by
    simp only [laid, List.getElem?_toArray, List.getElem?_cons_zero, List.getElem?_cons_succ, Option.map_some, Option.bind_some, cells40, cells4]
    rfl) w0 K
set_option maxRecDepth 10000 in
set_option maxHeartbeats 2000000 in
theorem cur_new (w : World) (A : Option Addr) (l : List UInt8) (c : Nat) (hA : Bs w A l) (hl : l.length ≤ 4000000) :
    Ret Tryz.prog 78 #[.slice A l.length c] w fun v w' => ∃ q, v = .pointer (some ⟨q, 0, none⟩) ∧ w.heap.size ≤ q ∧ InW w' (fun k => w.heap.size ≤ k ∧ k < q) q ⟨l, false⟩ ∧ More w w' := by
  refine ret_of Tryz.func78 rfl (by kernel_rfl) (by show 1 ≤ 7; omega) ?_
  simp (config := {maxSteps := 1000000, implicitDefEqProofs := false}) only [↓zvD, zvU, ↓up_apply, ↓hv_apply, ↓upO_some, ↓upO_none, ↓ev_tmp, ↓ev_const, ↓ev_func, ↓ev_global, init, Nat.reduceEqDiff, Nat.reduceAdd, Nat.reduceMul, Nat.reduceSub, ↓reduceIte, Int.reduceEq, Int.reduceNe, Nat.reduceLeDiff, one, Value.cells, Int.reduceLE, Int.reduceLT, Int.reduceToNat, add_mk, reduceCtorEq, List.mem_range'_1, true_and, and_true, and_false, false_and, Nat.reduceLT, Nat.reduceLeDiff, tyF]
  refine call_ok Tryz.call89 (clone w A l c hA (by omega)) ?_
  rintro _ w1 ⟨A', c', rfl, ho, hm⟩
  simp (config := {maxSteps := 1000000, implicitDefEqProofs := false}) only [↓zvD, zvU, ↓up_apply, ↓hv_apply, ↓upO_some, ↓upO_none, ↓ev_tmp, ↓ev_const, ↓ev_func, ↓ev_global, init, Nat.reduceEqDiff, Nat.reduceAdd, Nat.reduceMul, Nat.reduceSub, ↓reduceIte, Int.reduceEq, Int.reduceNe, Nat.reduceLeDiff, one, Value.cells, Int.reduceLE, Int.reduceLT, Int.reduceToNat, add_mk, reduceCtorEq, List.mem_range'_1, true_and, and_true, and_false, false_and, Nat.reduceLT, Nat.reduceLeDiff, tyF, in_build A' l.length c' w]
  have hm2 := more_alloc w1 (.cells #[.slice A' l.length c', .bool false] 242)
  have hb2 := Blk.new w1 242 #[.slice A' l.length c', .bool false]
  refine ⟨_, rfl, hm.size, ⟨A', c', hb2, ho.cs.more hm2, ho.le, fun a ha => Nat.ne_of_lt (ho.atB_ge ⟨a, ha, rfl⟩).2, fun a ha => ho.atB_ge ⟨a, ha, rfl⟩⟩, hm.trans hm2⟩
theorem adv_ne {A : Option Addr} {c k : Nat} {F : Nat → Prop} (h : ∀ a, A = some a → F a.block) : ∀ a, adv A c k 1 = some a → F a.block := by
  intro a ha
  unfold adv at ha
  split at ha
  · exact h a ha
  · cases A with
    | none => cases ha
    | some b =>
      simp only [Option.map_some, Option.some.injEq] at ha
      subst ha
      rw [add_block]
      exact h b rfl
/-- what is taken, and what is left -/
def InM.take (s : InM) (n : Int) : List UInt8 × InM := if s.bad = true ∨ n < 0 ∨ (s.rest.length : Int) < n then ([], ⟨s.rest, true⟩) else (s.rest.take n.toNat, ⟨s.rest.drop n.toNat, false⟩)
set_option maxRecDepth 10000 in
set_option maxHeartbeats 2000000 in
theorem cur_raw (w : World) (F : Nat → Prop) (q : Nat) (s : InM) (n : Int) (hI : InW w F q s) (hl : s.rest.length ≤ 4000000) :
    Ret Tryz.prog 115 #[.pointer (some ⟨q, 0, none⟩), .int .i64 n] w fun v w' => ∃ A' c', v = .slice A' (s.take n).1.length c' ∧ Own w' w.heap.size 5 1 A' (s.take n).1.length c' ((s.take n).1.map byteV) ∧ InW w' F q (s.take n).2 ∧ But q w w' := by
  obtain ⟨A, c, hb, hA, hc, hne, hF⟩ := hI
  refine ret_of Tryz.func115 rfl (by kernel_rfl) (by show 2 ≤ 43; omega) ?_
  -- the ways that make it bad, or find it bad
  have fail : ∀ w', Wr q w w' → Blk w' q 242 [.slice A s.rest.length c, .bool true] → s.take n = ([], ⟨s.rest, true⟩) →
      ∃ A' c', Value.slice none 0 0 = .slice A' (s.take n).1.length c' ∧ Own w' w.heap.size 5 1 A' (s.take n).1.length c' ((s.take n).1.map byteV) ∧ InW w' F q (s.take n).2 ∧ But q w w' := by
    intro w' h1 h2 h3
    rw [h3]
    exact ⟨none, 0, rfl, Own.nil _ _ _ _, ⟨A, c, h2, (But.of_wr h1).bs hA hne, hc, hne, hF⟩, But.of_wr h1⟩
  simp (config := {maxSteps := 1000000, implicitDefEqProofs := false}) only [↓zvD, zvU, ↓up_apply, ↓hv_apply, ↓upO_some, ↓upO_none, ↓ev_tmp, ↓ev_const, ↓ev_func, ↓ev_global, init, Nat.reduceEqDiff, Nat.reduceAdd, Nat.reduceMul, Nat.reduceSub, ↓reduceIte, Int.reduceEq, Int.reduceNe, Nat.reduceLeDiff, one, Value.cells, Int.reduceLE, Int.reduceLT, Int.reduceToNat, add_mk, reduceCtorEq, List.mem_range'_1, true_and, and_true, and_false, false_and, Nat.reduceLT, Nat.reduceLeDiff, tyF, hb.cell]
  refine ⟨fun h1 => ?_, fun h1 => ⟨fun h2 => ?_, fun h2 => ?_⟩⟩
  · refine st_cell hb (by simp) rfl fun w1 k1 k2 => ?_
    simp (config := {maxSteps := 1000000, implicitDefEqProofs := false}) only [↓zvD, zvU, ↓up_apply, ↓hv_apply, ↓upO_some, ↓upO_none, ↓ev_tmp, ↓ev_const, ↓ev_func, ↓ev_global, init, Nat.reduceEqDiff, Nat.reduceAdd, Nat.reduceMul, Nat.reduceSub, ↓reduceIte, Int.reduceEq, Int.reduceNe, Nat.reduceLeDiff, one, Value.cells, Int.reduceLE, Int.reduceLT, Int.reduceToNat, add_mk, reduceCtorEq, List.mem_range'_1, true_and, and_true, and_false, false_and, Nat.reduceLT, Nat.reduceLeDiff, tyF, k2.cell, List.set_cons_succ, List.set_cons_zero]
    exact fail w1 k1 k2 (by unfold InM.take; rw [if_pos (by omega)])
  · refine st_cell hb (by simp) rfl fun w1 k1 k2 => ?_
    simp (config := {maxSteps := 1000000, implicitDefEqProofs := false}) only [↓zvD, zvU, ↓up_apply, ↓hv_apply, ↓upO_some, ↓upO_none, ↓ev_tmp, ↓ev_const, ↓ev_func, ↓ev_global, init, Nat.reduceEqDiff, Nat.reduceAdd, Nat.reduceMul, Nat.reduceSub, ↓reduceIte, Int.reduceEq, Int.reduceNe, Nat.reduceLeDiff, one, Value.cells, Int.reduceLE, Int.reduceLT, Int.reduceToNat, add_mk, reduceCtorEq, List.mem_range'_1, true_and, and_true, and_false, false_and, Nat.reduceLT, Nat.reduceLeDiff, tyF, k2.cell, List.set_cons_succ, List.set_cons_zero]
    exact fail w1 k1 k2 (by unfold InM.take; rw [if_pos (by omega)])
  cases hbad : s.bad with
  | true =>
    simp (config := {maxSteps := 1000000, implicitDefEqProofs := false}) only [↓zvD, zvU, ↓up_apply, ↓hv_apply, ↓upO_some, ↓upO_none, ↓ev_tmp, ↓ev_const, ↓ev_func, ↓ev_global, init, Nat.reduceEqDiff, Nat.reduceAdd, Nat.reduceMul, Nat.reduceSub, ↓reduceIte, Int.reduceEq, Int.reduceNe, Nat.reduceLeDiff, one, Value.cells, Int.reduceLE, Int.reduceLT, Int.reduceToNat, add_mk, reduceCtorEq, List.mem_range'_1, true_and, and_true, and_false, false_and, Nat.reduceLT, Nat.reduceLeDiff, tyF]
    exact fail w (Wr.refl q w) (by rw [← hbad]; exact hb) (by unfold InM.take; rw [if_pos (.inl hbad)])
  | false =>
    have htake : s.take n = (s.rest.take n.toNat, ⟨s.rest.drop n.toNat, false⟩) := by unfold InM.take; rw [if_neg (by rw [hbad]; simp; omega)]
    have hnc : n.toNat ≤ c := by omega
    simp (config := {maxSteps := 1000000, implicitDefEqProofs := false}) only [↓zvD, zvU, ↓up_apply, ↓hv_apply, ↓upO_some, ↓upO_none, ↓ev_tmp, ↓ev_const, ↓ev_func, ↓ev_global, init, Nat.reduceEqDiff, Nat.reduceAdd, Nat.reduceMul, Nat.reduceSub, ↓reduceIte, Int.reduceEq, Int.reduceNe, Nat.reduceLeDiff, one, Value.cells, Int.reduceLE, Int.reduceLT, Int.reduceToNat, add_mk, reduceCtorEq, List.mem_range'_1, true_and, and_true, and_false, false_and, Nat.reduceLT, Nat.reduceLeDiff, tyF, hb.cell, hnc]
    have htk : (s.rest.take n.toNat).length = n.toNat := by rw [List.length_take]; omega
    have hdl : (s.rest.drop n.toNat).length = s.rest.length - n.toNat := List.length_drop ..
    refine ⟨by omega, call_ok Tryz.call89 (by have := clone w A (s.rest.take n.toNat) c (Cs.takeB hA _) (by omega); rw [htk] at this; exact this) ?_⟩
    rintro _ w1 ⟨A', c', rfl, ho, hm⟩
    have hb1 := hb.more hm
    have h0n : 0 ≤ n := by omega
    have hnl : n.toNat ≤ s.rest.length := by omega
    simp (config := {maxSteps := 1000000, implicitDefEqProofs := false}) only [↓zvD, zvU, ↓up_apply, ↓hv_apply, ↓upO_some, ↓upO_none, ↓ev_tmp, ↓ev_const, ↓ev_func, ↓ev_global, init, Nat.reduceEqDiff, Nat.reduceAdd, Nat.reduceMul, Nat.reduceSub, ↓reduceIte, Int.reduceEq, Int.reduceNe, Nat.reduceLeDiff, one, Value.cells, Int.reduceLE, Int.reduceLT, Int.reduceToNat, add_mk, reduceCtorEq, List.mem_range'_1, true_and, and_true, and_false, false_and, Nat.reduceLT, Nat.reduceLeDiff, tyF, hb1.cell, h0n, hnc, hnl]
    refine st_cell hb1 (by simp) rfl fun w2 k1 k2 => ?_
    rw [htake]
    have hbut : But q w w2 := (But.of_more hm).trans (But.of_wr k1)
    refine ⟨A', c', by rw [htk], ?_, ⟨adv A c n.toNat 1, c - n.toNat, ?_, (But.of_wr k1).bs (Cs.advB (hA.more hm) hc) ?_, by rw [hdl]; omega, ?_, ?_⟩, hbut⟩
    · rw [htk]
      exact ho.wr k1 (ho.ne_blk hb1 (by decide))
    · rw [hbad] at k2
      rw [hdl]
      exact k2
    · exact adv_ne (F := fun k => k ≠ q) hne
    · exact adv_ne (F := fun k => k ≠ q) hne
    · exact adv_ne hF
end Go.Proofs.YtahcaplhdgphcaaGreat
