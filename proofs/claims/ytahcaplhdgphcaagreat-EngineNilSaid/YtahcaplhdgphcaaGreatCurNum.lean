/-
  Layer 2: numbers that are taken.
-/
import Derived.Test.YtahcaplhdgphcaaGreatCurIn
namespace Go.Proofs.YtahcaplhdgphcaaGreat
open Go Go.RowKit Go.Proofs.RV
set_option linter.unusedSimpArgs false
set_option linter.unusedVariables false

/-- bytes as a number, the highest first -/
def be (l : List UInt8) : Int := l.foldl (fun x b => x * 256 + (b.toNat : Int)) 0
theorem be_nil : be [] = 0 := rfl
theorem be_snoc (l : List UInt8) (b : UInt8) : be (l ++ [b]) = be l * 256 + b.toNat := by simp [be, List.foldl_append]
theorem be_step {l : List UInt8} {k : Nat} (h : k < l.length) : be (l.take (k + 1)) = be (l.take k) * 256 + bt l k := by
  rw [List.take_add_one, List.getElem?_eq_getElem h, Option.toList_some, be_snoc]
  simp [bt, List.getD_eq_getElem?_getD, List.getElem?_eq_getElem h]
theorem be_range (l : List UInt8) : 0 ≤ be l ∧ be l < (256 ^ l.length : Nat) := by
  have h : ∀ k, k ≤ l.length → 0 ≤ be (l.take k) ∧ be (l.take k) < (256 ^ k : Nat) := by
    intro k
    induction k with
    | zero => intro _; simp [be]
    | succ k ih =>
      intro hk
      have := ih (by omega)
      have b1 := bt_nonneg l k
      have b2 := bt_lt l k
      rw [be_step (by omega), Nat.pow_succ]
      omega
  simpa using h l.length (Nat.le_refl _)
theorem be_lt {l : List UInt8} {n : Nat} (h : l.length ≤ n) : be l < (256 ^ n : Nat) := by
  have h1 := (be_range l).2
  have h2 : 256 ^ l.length ≤ 256 ^ n := Nat.pow_le_pow_right (by omega) h
  omega
theorem InM.take_len (s : InM) (n : Int) : (s.take n).1.length ≤ n.toNat := by
  unfold InM.take
  split
  · simp
  · simp only [List.length_take]; omega
theorem InM.take_rest (s : InM) (n : Int) : (s.take n).2.rest.length ≤ s.rest.length := by
  unfold InM.take
  split
  · simp
  · simp only [List.length_drop]; omega
theorem take_ok {l : List UInt8} {n : Nat} (h : n ≤ l.length) : (InM.mk l false).take n = (l.take n, ⟨l.drop n, false⟩) := by
  unfold InM.take
  rw [if_neg (by simp; omega)]
  simp
theorem take_short {l : List UInt8} {b : Bool} {n : Nat} (h : l.length < n) : (InM.mk l b).take n = ([], ⟨l, true⟩) := by
  unfold InM.take
  rw [if_pos (by simp; omega)]
theorem take2_ok {l : List UInt8} (h : 2 ≤ l.length) : (InM.mk l false).take 2 = (l.take 2, ⟨l.drop 2, false⟩) := take_ok (n := 2) h
theorem take2_short {l : List UInt8} {b : Bool} (h : l.length < 2) : (InM.mk l b).take 2 = ([], ⟨l, true⟩) := take_short (n := 2) h
theorem take_bad (l : List UInt8) (n : Int) : (InM.mk l true).take n = ([], ⟨l, true⟩) := by
  unfold InM.take
  rw [if_pos (by simp)]
theorem take_badI {s : InM} (h : s.bad = true) (n : Int) : s.take n = ([], ⟨s.rest, true⟩) := by
  unfold InM.take
  rw [if_pos (.inl h)]
theorem shl8u (x : Int) : x * 2 ^ min 8 IntKind.u64.bits = x * 256 := by
  have : min 8 IntKind.u64.bits = 8 := by simp [IntKind.bits]
  rw [this]
  rfl
theorem max_u64 : IntKind.u64.max = 18446744073709551615 := by simp [IntKind.max, IntKind.signed, IntKind.bits]
set_option maxRecDepth 10000 in
set_option maxHeartbeats 2000000 in
theorem cur_num (w : World) (F : Nat → Prop) (q : Nat) (s : InM) (n : Int) (hI : InW w F q s) (hl : s.rest.length ≤ 4000000) (h0 : 0 ≤ n) (h8 : n ≤ 8) :
    Ret Tryz.prog 148 #[.pointer (some ⟨q, 0, none⟩), .int .i64 n] w fun v w' => v = .int .u64 (be (s.take n).1) ∧ InW w' F q (s.take n).2 ∧ But q w w' := by
  refine ret_of Tryz.func148 rfl (by kernel_rfl) (by show 2 ≤ 23; omega) ?_
  simp (config := {maxSteps := 1000000, implicitDefEqProofs := false}) only [↓zvD, zvU, ↓up_apply, ↓hv_apply, ↓upO_some, ↓upO_none, ↓ev_tmp, ↓ev_const, ↓ev_func, ↓ev_global, init, Nat.reduceEqDiff, Nat.reduceAdd, Nat.reduceMul, Nat.reduceSub, ↓reduceIte, Int.reduceEq, Int.reduceNe, Nat.reduceLeDiff, one, Value.cells, Int.reduceLE, Int.reduceLT, Int.reduceToNat, add_mk, reduceCtorEq, List.mem_range'_1, true_and, and_true, and_false, false_and, Nat.reduceLT, Nat.reduceLeDiff, tyF]
  refine call_ok Tryz.call115 (cur_raw w F q s n hI hl) ?_
  rintro _ w1 ⟨A, c, rfl, ho, hI1, hb⟩
  have hlen : (s.take n).1.length ≤ 8 := by have := s.take_len n; omega
  generalize (s.take n).1 = l at ho hlen ⊢
  simp (config := {maxSteps := 1000000, implicitDefEqProofs := false}) only [↓zvD, zvU, ↓up_apply, ↓hv_apply, ↓upO_some, ↓upO_none, ↓ev_tmp, ↓ev_const, ↓ev_func, ↓ev_global, init, Nat.reduceEqDiff, Nat.reduceAdd, Nat.reduceMul, Nat.reduceSub, ↓reduceIte, Int.reduceEq, Int.reduceNe, Nat.reduceLeDiff, one, Value.cells, Int.reduceLE, Int.reduceLT, Int.reduceToNat, add_mk, reduceCtorEq, List.mem_range'_1, true_and, and_true, and_false, false_and, Nat.reduceLT, Nat.reduceLeDiff, tyF]
  refine loop_p [5, 7, 12, 13, 14, 15, 16, 17, 18, 19, 20, 21] (fun e w' => ∃ k : Nat, e 12 = .int .i64 k ∧ k ≤ l.length ∧ e 5 = .int .u64 (be (l.take k)) ∧ w' = w1) (fun e _ => l.length - (numOf (e 12)).toNat) ?_ ?_
  · exact ⟨0, by simp [hv_apply, up_apply, upO_some, upO_none, init, List.mem_cons, List.mem_range'_1, true_and, and_true, and_false, false_and, Nat.reduceLT, Nat.reduceLeDiff, Nat.reduceAdd, true_or, or_true, if_true, if_false, ↓reduceIte, Nat.reduceEqDiff, false_or, or_false, List.not_mem_nil, List.getElem?_cons_zero, List.getElem?_cons_succ, Option.getD_some], by omega, by simp [hv_apply, up_apply, upO_some, upO_none, init, List.mem_cons, List.mem_range'_1, true_and, and_true, and_false, false_and, Nat.reduceLT, Nat.reduceLeDiff, Nat.reduceAdd, true_or, or_true, if_true, if_false, ↓reduceIte, Nat.reduceEqDiff, false_or, or_false, List.not_mem_nil, List.getElem?_cons_zero, List.getElem?_cons_succ, Option.getD_some, be_nil], rfl⟩
  · rintro v w2 ⟨k, g12, hk, g5, rfl⟩
    simp only [hv_apply, up_apply, upO_some, upO_none, init, List.mem_cons, List.mem_range'_1, true_and, and_true, and_false, false_and, Nat.reduceLT, Nat.reduceLeDiff, Nat.reduceAdd, true_or, or_true, if_true, if_false, ↓reduceIte, Nat.reduceEqDiff, false_or, or_false, List.not_mem_nil, List.getElem?_cons_zero, List.getElem?_cons_succ, Option.getD_some] at g12 g5
    simp (config := {maxSteps := 1000000, implicitDefEqProofs := false}) only [↓zvD, zvU, ↓up_apply, ↓hv_apply, ↓upO_some, ↓upO_none, ↓ev_tmp, ↓ev_const, ↓ev_func, ↓ev_global, init, Nat.reduceEqDiff, Nat.reduceAdd, Nat.reduceMul, Nat.reduceSub, ↓reduceIte, Int.reduceEq, Int.reduceNe, Nat.reduceLeDiff, one, Value.cells, Int.reduceLE, Int.reduceLT, Int.reduceToNat, add_mk, reduceCtorEq, List.mem_range'_1, true_and, and_true, and_false, false_and, Nat.reduceLT, Nat.reduceLeDiff, tyF, g12, g5]
    refine ⟨fun h1 => ?_, fun h1 => ?_⟩
    · have hkl : k < l.length := by omega
      obtain ⟨a, rfl⟩ := ho.cs.isAt (by omega)
      have hc := ho.cs.cellN hkl
      have hkz : (0 : Int) ≤ k := by omega
      have hr := be_range (l.take k)
      have hr2 : be (l.take k) < (256 ^ 7 : Nat) := be_lt (by rw [List.length_take]; omega)
      have b1 := bt_nonneg l k
      have b2 := bt_lt l k
      have e1 : IntKind.u64.wrap (be (l.take k) * 256) = be (l.take k) * 256 := wu64 (by omega) (by omega)
      have e2 : IntKind.u64.wrap (bt l k) = bt l k := wu64 b1 (by omega)
      have e3 : bits .or .u64 (be (l.take k) * 256) (bt l k) = be (l.take (k + 1)) := by
        rw [be_step hkl]
        exact or_low (k := .u64) 8 hr.1 b1 (by simpa using b2) (by rw [max_u64]; simp; omega)
      have e4 : IntKind.i64.wrap ((k : Int) + 1) = (k : Int) + 1 := w64 (by omega) (by omega)
      simp (config := {maxSteps := 1000000, implicitDefEqProofs := false}) only [↓zvD, zvU, ↓up_apply, ↓hv_apply, ↓upO_some, ↓upO_none, ↓ev_tmp, ↓ev_const, ↓ev_func, ↓ev_global, init, Nat.reduceEqDiff, Nat.reduceAdd, Nat.reduceMul, Nat.reduceSub, ↓reduceIte, Int.reduceEq, Int.reduceNe, Nat.reduceLeDiff, one, Value.cells, Int.reduceLE, Int.reduceLT, Int.reduceToNat, add_mk, reduceCtorEq, List.mem_range'_1, true_and, and_true, and_false, false_and, Nat.reduceLT, Nat.reduceLeDiff, tyF, g5, g12, h1, hkz, hc, Int.toNat_natCast, shl8u, e1, e2, e3, e4]
      refine ⟨⟨?_, k + 1, by simp, by omega, rfl⟩, by simp only [numOf]; omega⟩
      repeat (first | exact Same.hv _ _ _ | refine Same.up (by simp) ?_)
    · have : k = l.length := by omega
      subst this
      rw [List.take_length]
      simp (config := {maxSteps := 1000000, implicitDefEqProofs := false}) only [↓zvD, zvU, ↓up_apply, ↓hv_apply, ↓upO_some, ↓upO_none, ↓ev_tmp, ↓ev_const, ↓ev_func, ↓ev_global, init, Nat.reduceEqDiff, Nat.reduceAdd, Nat.reduceMul, Nat.reduceSub, ↓reduceIte, Int.reduceEq, Int.reduceNe, Nat.reduceLeDiff, one, Value.cells, Int.reduceLE, Int.reduceLT, Int.reduceToNat, add_mk, reduceCtorEq, List.mem_range'_1, true_and, and_true, and_false, false_and, Nat.reduceLT, Nat.reduceLeDiff, tyF]
      exact ⟨hI1, hb⟩
set_option maxRecDepth 10000 in
set_option maxHeartbeats 2000000 in
theorem cur_u16 (w : World) (F : Nat → Prop) (q : Nat) (s : InM) (hI : InW w F q s) (hl : s.rest.length ≤ 4000000) :
    Ret Tryz.prog 116 #[.pointer (some ⟨q, 0, none⟩)] w fun v w' => v = .int .u16 (be (s.take 2).1) ∧ InW w' F q (s.take 2).2 ∧ But q w w' := by
  refine ret_of Tryz.func116 rfl (by kernel_rfl) (by show 1 ≤ 6; omega) ?_
  simp (config := {maxSteps := 1000000, implicitDefEqProofs := false}) only [↓zvD, zvU, ↓up_apply, ↓hv_apply, ↓upO_some, ↓upO_none, ↓ev_tmp, ↓ev_const, ↓ev_func, ↓ev_global, init, Nat.reduceEqDiff, Nat.reduceAdd, Nat.reduceMul, Nat.reduceSub, ↓reduceIte, Int.reduceEq, Int.reduceNe, Nat.reduceLeDiff, one, Value.cells, Int.reduceLE, Int.reduceLT, Int.reduceToNat, add_mk, reduceCtorEq, List.mem_range'_1, true_and, and_true, and_false, false_and, Nat.reduceLT, Nat.reduceLeDiff, tyF]
  refine call_ok Tryz.call148 (cur_num w F q s 2 hI hl (by omega) (by omega)) ?_
  rintro _ w1 ⟨rfl, hI1, hb⟩
  have hr := be_range (s.take 2).1
  have hr2 : be (s.take 2).1 < (256 ^ 2 : Nat) := be_lt (s.take_len 2)
  have e1 : IntKind.u16.wrap (be (s.take 2).1) = be (s.take 2).1 := wu16 hr.1 (by omega)
  simp (config := {maxSteps := 1000000, implicitDefEqProofs := false}) only [↓zvD, zvU, ↓up_apply, ↓hv_apply, ↓upO_some, ↓upO_none, ↓ev_tmp, ↓ev_const, ↓ev_func, ↓ev_global, init, Nat.reduceEqDiff, Nat.reduceAdd, Nat.reduceMul, Nat.reduceSub, ↓reduceIte, Int.reduceEq, Int.reduceNe, Nat.reduceLeDiff, one, Value.cells, Int.reduceLE, Int.reduceLT, Int.reduceToNat, add_mk, reduceCtorEq, List.mem_range'_1, true_and, and_true, and_false, false_and, Nat.reduceLT, Nat.reduceLeDiff, tyF, e1]
  exact ⟨hI1, hb⟩
set_option maxRecDepth 10000 in
set_option maxHeartbeats 2000000 in
theorem cur_bad (w : World) (F : Nat → Prop) (q : Nat) (s : InM) (hI : InW w F q s) :
    Ret Tryz.prog 82 #[.pointer (some ⟨q, 0, none⟩)] w fun v w' => v = .bool s.bad ∧ w' = w := by
  obtain ⟨A, c, hb, hA, hc, hne, hF⟩ := hI
  refine ret_of Tryz.func82 rfl (by kernel_rfl) (by show 1 ≤ 11; omega) ?_
  simp (config := {maxSteps := 1000000, implicitDefEqProofs := false}) only [↓zvD, zvU, ↓up_apply, ↓hv_apply, ↓upO_some, ↓upO_none, ↓ev_tmp, ↓ev_const, ↓ev_func, ↓ev_global, init, Nat.reduceEqDiff, Nat.reduceAdd, Nat.reduceMul, Nat.reduceSub, ↓reduceIte, Int.reduceEq, Int.reduceNe, Nat.reduceLeDiff, one, Value.cells, Int.reduceLE, Int.reduceLT, Int.reduceToNat, add_mk, reduceCtorEq, List.mem_range'_1, true_and, and_true, and_false, false_and, Nat.reduceLT, Nat.reduceLeDiff, tyF, hb.cell]
end Go.Proofs.YtahcaplhdgphcaaGreat
