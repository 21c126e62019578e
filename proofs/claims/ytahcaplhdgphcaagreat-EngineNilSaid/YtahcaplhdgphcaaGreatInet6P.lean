/-
  Layer 10: inet6.Parse.
-/
import Derived.Test.YtahcaplhdgphcaaGreatInet6
namespace Go.Proofs.YtahcaplhdgphcaaGreat
open Go Go.RowKit Go.Proofs.RV
set_option linter.unusedSimpArgs false
set_option linter.unusedVariables false
set_option maxRecDepth 10000
set_option maxHeartbeats 4000000

theorem parse6_fit (l : List UInt8) : (parse6 l).Fit := by
  unfold parse6
  split
  · rename_i h
    have hp : ∀ (r : Nat) (p : Int) (x : List UInt8) (b : Bool), 0 ≤ p ∧ p < 256 → 0 ≤ (go6 r p x b).2.1 ∧ (go6 r p x b).2.1 < 256 := by
      intro r
      induction r with
      | zero =>
        intro p x b hp
        unfold go6
        split
        · simp
        · exact hp
      | succ r ih =>
        intro p x b hp
        unfold go6
        split
        · split
          · simp
          · exact ih _ _ _ ⟨bt_nonneg _ _, bt_lt _ _⟩
        · exact hp
    have h40 : 40 ≤ l.length ∧ 0 ≤ (walk6 l).2.1 ∧ (walk6 l).2.1 < 256 := by
      unfold why6 at h
      unfold walk6 at h ⊢
      split at h
      · simp at h
      · rename_i h1
        rw [if_neg h1]
        refine ⟨by omega, ?_⟩
        split
        · simp
        split
        · simp
        · exact hp _ _ _ _ ⟨bt_nonneg _ _, bt_lt _ _⟩
    refine ⟨h40.2.1, h40.2.2, ?_, ?_⟩
    · simp; omega
    · simp; omega
  · exact netNone_fit
def Net6R (l : List UInt8) (w : World) (v : Value) (w' : World) : Prop :=
  ∃ A' c', v = .tuple #[.agg ((parse6 l).cells A' c').toArray, .int .i64 (why6 l)] ∧ Own w' w.heap.size 5 1 A' (parse6 l).body.length c' ((parse6 l).body.map byteV) ∧ More w w'
/-- a round of the loop that passes heads -/
def HeadJ (l : List UInt8) (w w1 : World) (v5 v6 v7 v8 : Value) (w' : World) : Prop :=
  ∃ (n : Nat) (p : Int) (A : Option Addr) (x : List UInt8) (c : Nat) (later : Bool), v5 = .int .u8 p ∧ v6 = .slice A x.length c ∧ v7 = .bool later ∧ v8 = .int .i64 n ∧ n ≤ 8 ∧ go6 (8 - n) p x later = walk6 l ∧ 0 ≤ p ∧ p < 256 ∧ Bs w' A x ∧ x.length ≤ c ∧ x.length ≤ l.length ∧ More w1 w'
theorem mid_build (p : Int) (A : Option Addr) (x : List UInt8) (c : Nat) (b : Bool) (w0 : World) (K : Value → Prop) : pureP Tryz.prog (Instr.build 127 #[(0, .int .u8 p), (3, .slice A x.length c), (4, .bool b)]) K = K (.agg ((NetM.mk p (noBytes 16) (noBytes 16) x b).cells A c).toArray) :=
  build_eq (out := (NetM.mk p (noBytes 16) (noBytes 16) x b).cells A c) Tryz.underlying127 zerNet netFields (by
    simp only [laid, List.getElem?_toArray, List.getElem?_cons_zero, List.getElem?_cons_succ, Option.map_some, Option.bind_some, cells5, cells40, cells4]
    rfl) w0 K
theorem go6_more {r : Nat} {p : Int} {x : List UInt8} {later : Bool} (h : (more6 p && !later) = true) : go6 r p x later = (match r with | 0 => (6, 0, [], false) | r + 1 => match pass6 p x with | none => (1, 0, [], false) | some (y, is) => go6 r (bt x 0) y is) := by
  cases r with
  | zero => simp only [go6, h, if_true]
  | succ r =>
    simp only [go6, h, if_true]
    cases pass6 p x <;> rfl
theorem go6_end {r : Nat} {p : Int} {x : List UInt8} {later : Bool} (h : (more6 p && !later) = false) : go6 r p x later = (0, p, x, !later) := by
  cases r <;> simp [go6, h]
theorem inet6_parse (w : World) (A : Option Addr) (l : List UInt8) (c : Nat) (hA : Bs w A l) (hc : l.length ≤ c) (hl : l.length ≤ 1000000) :
    Ret Tryz.prog 59 #[.slice A l.length c] w (Net6R l w) := by
  have bad : ∀ r, why6 l = r → r ≠ 0 → ∀ w', More w w' → Net6R l w (.tuple #[.agg netZ.toArray, .int .i64 r]) w' := by
    intro r hr hr0 w' hm
    have : parse6 l = netNone := by unfold parse6; rw [if_neg (by rw [hr]; exact hr0)]
    unfold Net6R
    rw [this, hr]
    exact ⟨none, 0, rfl, Own.nil _ _ _ _, hm⟩
  refine ret_of Tryz.func59 rfl (by kernel_rfl) (Nat.le_of_ble_eq_true (by kernel_rfl)) ?_
  have hm1 := more_alloc w (.cells netZ.toArray 127)
  have hb1 := Blk.new w 127 netZ.toArray
  have s1 := size_alloc w (.cells netZ.toArray 127)
  simp (config := {maxSteps := 1000000, implicitDefEqProofs := false}) only [↓zvD, zvU, ↓up_apply, ↓hv_apply, ↓upO_some, ↓upO_none, ↓ev_tmp, ↓ev_const, ↓ev_func, ↓ev_global, init, Nat.reduceEqDiff, Nat.reduceAdd, Nat.reduceMul, Nat.reduceSub, ↓reduceIte, Int.reduceEq, Int.reduceNe, Nat.reduceLeDiff, one, Value.cells, Int.reduceLE, Int.reduceLT, Int.reduceToNat, add_mk, reduceCtorEq, List.mem_range'_1, true_and, and_true, and_false, false_and, Nat.reduceLT, Nat.reduceLeDiff, tyF, zerNet]
  generalize w.alloc (.cells netZ.toArray 127) = w1 at hm1 hb1 s1 ⊢
  have bn := build0_eq (P := Tryz.prog) Tryz.underlying127 zerNet netFields w
  have sz := fun (w' : World) (hm : More w1 w') => st_same_eq (hb1.more hm) (n := 35) rfl (by simpa using netZ_one)
  have rd := fun (w' : World) (hm : More w1 w') => (hb1.more hm).all_eq 35 rfl
  simp only [List.toList_toArray] at sz rd
  have sz1 := sz w1 (More.refl w1)
  have rd1 := rd w1 (More.refl w1)
  refine ⟨fun h1 => ?_, fun h1 => ?_⟩
  · simp (config := {maxSteps := 1000000, implicitDefEqProofs := false}) only [↓zvD, zvU, ↓up_apply, ↓hv_apply, ↓upO_some, ↓upO_none, ↓ev_tmp, ↓ev_const, ↓ev_func, ↓ev_global, init, Nat.reduceEqDiff, Nat.reduceAdd, Nat.reduceMul, Nat.reduceSub, ↓reduceIte, Int.reduceEq, Int.reduceNe, Nat.reduceLeDiff, one, Value.cells, Int.reduceLE, Int.reduceLT, Int.reduceToNat, add_mk, reduceCtorEq, List.mem_range'_1, true_and, and_true, and_false, false_and, Nat.reduceLT, Nat.reduceLeDiff, tyF, bn, sz1, rd1]
    exact bad 1 (by unfold why6 walk6; rw [if_pos (by omega)]) (by omega) _ hm1
  have hA1 := hA.more hm1
  refine call_ok Tryz.call119 (inet6_two w1 A l c 4 hA1 hl (by omega)) ?_
  rintro _ w2 ⟨rfl, hm2⟩
  have sz2 := sz w2 hm2
  have rd2 := rd w2 hm2
  have hm12 := hm1.trans hm2
  obtain ⟨a, rfl⟩ := hA.isAt (by omega)
  have hA2 := hA1.more hm2
  have c0 := hA2.cellN (i := 0) (by omega)
  have g0 : (0 : Int) < l.length := by omega
  have t0 := two_range l 4
  have e1 : IntKind.i64.wrap (40 + two l 4) = 40 + two l 4 := w64 (by omega) (by omega)
  have hx : why6 l = why6 l := rfl
  have hb0 := bt_nonneg l 0
  have hb0' := bt_lt l 0
  simp (config := {maxSteps := 1000000, implicitDefEqProofs := false}) only [↓zvD, zvU, ↓up_apply, ↓hv_apply, ↓upO_some, ↓upO_none, ↓ev_tmp, ↓ev_const, ↓ev_func, ↓ev_global, init, Nat.reduceEqDiff, Nat.reduceAdd, Nat.reduceMul, Nat.reduceSub, ↓reduceIte, Int.reduceEq, Int.reduceNe, Nat.reduceLeDiff, one, Value.cells, Int.reduceLE, Int.reduceLT, Int.reduceToNat, add_mk, reduceCtorEq, List.mem_range'_1, true_and, and_true, and_false, false_and, Nat.reduceLT, Nat.reduceLeDiff, tyF, e1, c0, g0, shr4]
  refine ⟨fun h2 => ⟨fun h3 => ?_, fun h3 => ?_⟩, fun h2 => ?_⟩
  rotate_left 2
  · simp (config := {maxSteps := 1000000, implicitDefEqProofs := false}) only [↓zvD, zvU, ↓up_apply, ↓hv_apply, ↓upO_some, ↓upO_none, ↓ev_tmp, ↓ev_const, ↓ev_func, ↓ev_global, init, Nat.reduceEqDiff, Nat.reduceAdd, Nat.reduceMul, Nat.reduceSub, ↓reduceIte, Int.reduceEq, Int.reduceNe, Nat.reduceLeDiff, one, Value.cells, Int.reduceLE, Int.reduceLT, Int.reduceToNat, add_mk, reduceCtorEq, List.mem_range'_1, true_and, and_true, and_false, false_and, Nat.reduceLT, Nat.reduceLeDiff, tyF, bn, sz2, rd2]
    exact bad 3 (by unfold why6 walk6; rw [if_neg (by omega), if_pos h2]) (by omega) _ hm12
  · simp (config := {maxSteps := 1000000, implicitDefEqProofs := false}) only [↓zvD, zvU, ↓up_apply, ↓hv_apply, ↓upO_some, ↓upO_none, ↓ev_tmp, ↓ev_const, ↓ev_func, ↓ev_global, init, Nat.reduceEqDiff, Nat.reduceAdd, Nat.reduceMul, Nat.reduceSub, ↓reduceIte, Int.reduceEq, Int.reduceNe, Nat.reduceLeDiff, one, Value.cells, Int.reduceLE, Int.reduceLT, Int.reduceToNat, add_mk, reduceCtorEq, List.mem_range'_1, true_and, and_true, and_false, false_and, Nat.reduceLT, Nat.reduceLeDiff, tyF, bn, sz2, rd2]
    exact bad 5 (by unfold why6 walk6; rw [if_neg (by omega), if_neg (by omega), if_pos (by omega)]) (by omega) _ hm12
  have hwalk : walk6 l = go6 8 (bt l 6) ((l.take (40 + two l 4).toNat).drop 40) false := by unfold walk6; rw [if_neg (by omega), if_neg (by omega), if_neg (by omega)]
  obtain ⟨m, hm⟩ := Int.eq_ofNat_of_zero_le (show 0 ≤ 40 + two l 4 by omega)
  rw [hm] at hwalk h3 ⊢
  rw [Int.toNat_natCast] at hwalk
  have c6 := hA2.cellN (i := 6) (by omega)
  have g6 : (6 : Int) < l.length := by omega
  have hab := hA2.blk_lt (by omega)
  have hmc : m ≤ c := by omega
  have hm40 : 40 ≤ m := by omega
  have hm0 : (0 : Int) ≤ m := by omega
  have hb6 := bt_nonneg l 6
  have hb6' := bt_lt l 6
  refine draw_calm mixed (by kernel_rfl) ?_
  simp (config := {maxSteps := 1000000, implicitDefEqProofs := false}) only [↓zvD, zvU, ↓zqD, ↓up_apply, ↓hv_apply, ↓upO_some, ↓upO_none, ↓ev_tmp, ↓ev_const, ↓ev_func, ↓ev_global, init, Nat.reduceEqDiff, Nat.reduceAdd, Nat.reduceMul, Nat.reduceSub, ↓reduceIte, Int.reduceEq, Int.reduceNe, Nat.reduceLeDiff, one, Value.cells, Int.reduceLE, Int.reduceLT, Int.reduceToNat, add_mk, reduceCtorEq, List.mem_range'_1, true_and, and_true, and_false, false_and, Nat.reduceLT, Nat.reduceLeDiff, tyF, c6, g6, hab, add_block, hm0, hmc, hm40, Int.toNat_natCast]
  intro w3 hm3
  have hm13 : More w1 w3 := hm2.trans hm3
  have hrest : ((l.take m).drop 40).length = m - 40 := by rw [List.length_drop, List.length_take]; omega
  have start : HeadJ l w w1 (.int .u8 (bt l 6)) (.slice (adv (some a) c 40 1) (m - 40) (c - 40)) (.bool false) (.int .i64 0) w3 := by
    refine ⟨0, bt l 6, adv (some a) c 40 1, (l.take m).drop 40, c - 40, false, rfl, by rw [hrest], rfl, rfl, by omega, hwalk.symm, hb6, hb6', Cs.advB (Cs.takeB (hA1.more hm13) m) (by rw [List.length_take]; omega), by omega, by omega, hm13⟩
  generalize bt l 6 = p0 at start ⊢
  generalize adv (some a) c 40 1 = A0 at start ⊢
  refine loop_p [5, 6, 7, 8, 9, 10, 11, 39, 40, 41, 42, 43, 44, 45, 46, 47, 48, 49, 50, 51, 52, 53, 54, 55, 56, 57, 58, 59, 60, 61, 62, 63, 64] (fun e w' => HeadJ l w w1 (e 5) (e 6) (e 7) (e 8) w') (fun e _ => 9 - (numOf (e 8)).toNat) ?_ ?_
  · simpa only [hv_apply, up_apply, upO_some, upO_none, init, List.mem_cons, List.mem_range'_1, true_and, and_true, and_false, false_and, Nat.reduceLT, Nat.reduceLeDiff, Nat.reduceAdd, true_or, or_true, if_true, if_false, ↓reduceIte, Nat.reduceEqDiff, false_or, or_false, List.not_mem_nil, List.getElem?_cons_zero, List.getElem?_cons_succ, Option.getD_some] using start
  rintro v w4 ⟨n, p, A4, x, c4, later, h5, h6, h7, h8, hn, hgo, hp0, hp1, hA4, hc4, hxl, hm4⟩
  simp only [hv_apply, up_apply, upO_some, upO_none, init, List.mem_cons, List.mem_range'_1, true_and, and_true, and_false, false_and, Nat.reduceLT, Nat.reduceLeDiff, Nat.reduceAdd, true_or, or_true, if_true, if_false, ↓reduceIte, Nat.reduceEqDiff, false_or, or_false, List.not_mem_nil, List.getElem?_cons_zero, List.getElem?_cons_succ, Option.getD_some] at h5 h6 h7 h8
  have sz4 := sz w4 hm4
  have rd4 := rd w4 hm4
  simp (config := {maxSteps := 1000000, implicitDefEqProofs := false}) only [↓zvD, zvU, ↓up_apply, ↓hv_apply, ↓upO_some, ↓upO_none, ↓ev_tmp, ↓ev_const, ↓ev_func, ↓ev_global, init, Nat.reduceEqDiff, Nat.reduceAdd, Nat.reduceMul, Nat.reduceSub, ↓reduceIte, Int.reduceEq, Int.reduceNe, Nat.reduceLeDiff, one, Value.cells, Int.reduceLE, Int.reduceLT, Int.reduceToNat, add_mk, reduceCtorEq, List.mem_range'_1, true_and, and_true, and_false, false_and, Nat.reduceLT, Nat.reduceLeDiff, tyF, h5, h6, h7, h8]
  refine call_ok Tryz.call120 (inet6_more w4 p) ?_
  rintro _ w5 ⟨rfl, rfl⟩
  cases hmo : (more6 p && !later) with
  | true =>
    obtain ⟨hmp, hml⟩ : more6 p = true ∧ later = false := by simpa using hmo
    have hgo2 := go6_more (r := 8 - n) (x := x) hmo
    rw [hgo] at hgo2
    rw [hmp]
    simp (config := {maxSteps := 1000000, implicitDefEqProofs := false}) only [↓zvD, zvU, ↓up_apply, ↓hv_apply, ↓upO_some, ↓upO_none, ↓ev_tmp, ↓ev_const, ↓ev_func, ↓ev_global, init, Nat.reduceEqDiff, Nat.reduceAdd, Nat.reduceMul, Nat.reduceSub, ↓reduceIte, Int.reduceEq, Int.reduceNe, Nat.reduceLeDiff, one, Value.cells, Int.reduceLE, Int.reduceLT, Int.reduceToNat, add_mk, reduceCtorEq, List.mem_range'_1, true_and, and_true, and_false, false_and, Nat.reduceLT, Nat.reduceLeDiff, tyF, h5, h6, h7, h8, hml]
    refine ⟨fun h8n => ?_, fun h8n => ?_⟩
    · have hn8 : n = 8 := by omega
      subst hn8
      simp (config := {maxSteps := 1000000, implicitDefEqProofs := false}) only [↓zvD, zvU, ↓up_apply, ↓hv_apply, ↓upO_some, ↓upO_none, ↓ev_tmp, ↓ev_const, ↓ev_func, ↓ev_global, init, Nat.reduceEqDiff, Nat.reduceAdd, Nat.reduceMul, Nat.reduceSub, ↓reduceIte, Int.reduceEq, Int.reduceNe, Nat.reduceLeDiff, one, Value.cells, Int.reduceLE, Int.reduceLT, Int.reduceToNat, add_mk, reduceCtorEq, List.mem_range'_1, true_and, and_true, and_false, false_and, Nat.reduceLT, Nat.reduceLeDiff, tyF, bn, sz4, rd4]
      exact bad 6 (by have : walk6 l = (6, 0, [], false) := hgo2; unfold why6; rw [this]) (by omega) _ (hm1.trans hm4)
    have hlt : n < 8 := by omega
    rw [show 8 - n = (8 - (n + 1)) + 1 by omega] at hgo2
    refine call_ok Tryz.call121 (inet6_pass w5 A4 x c4 p hA4 hc4 (by omega)) ?_
    rintro _ w6 ⟨⟨hnone, rfl⟩ | ⟨hx8, hxh, hsome, rfl⟩, hm6⟩
    · have hm46 := hm4.trans hm6
      have sz6 := sz w6 hm46
      have rd6 := rd w6 hm46
      simp only [hnone] at hgo2
      simp (config := {maxSteps := 1000000, implicitDefEqProofs := false}) only [↓zvD, zvU, ↓up_apply, ↓hv_apply, ↓upO_some, ↓upO_none, ↓ev_tmp, ↓ev_const, ↓ev_func, ↓ev_global, init, Nat.reduceEqDiff, Nat.reduceAdd, Nat.reduceMul, Nat.reduceSub, ↓reduceIte, Int.reduceEq, Int.reduceNe, Nat.reduceLeDiff, one, Value.cells, Int.reduceLE, Int.reduceLT, Int.reduceToNat, add_mk, reduceCtorEq, List.mem_range'_1, true_and, and_true, and_false, false_and, Nat.reduceLT, Nat.reduceLeDiff, tyF, bn, sz6, rd6]
      exact bad 1 (by unfold why6; rw [hgo2]) (by omega) _ (hm1.trans hm46)
    · have hm46 := hm4.trans hm6
      simp only [hsome] at hgo2
      obtain ⟨a4, rfl⟩ := hA4.isAt (by omega)
      have x0 := (hA4.more hm6).cellN (i := 0) (by omega)
      have gx0 : (0 : Int) < x.length := by omega
      have ek : IntKind.i64.wrap ((n : Int) + 1) = ((n + 1 : Nat) : Int) := w64 (by omega) (by omega)
      have bx0 := bt_nonneg x 0
      have bx1 := bt_lt x 0
      simp (config := {maxSteps := 1000000, implicitDefEqProofs := false}) only [↓zvD, zvU, ↓up_apply, ↓hv_apply, ↓upO_some, ↓upO_none, ↓ev_tmp, ↓ev_const, ↓ev_func, ↓ev_global, init, Nat.reduceEqDiff, Nat.reduceAdd, Nat.reduceMul, Nat.reduceSub, ↓reduceIte, Int.reduceEq, Int.reduceNe, Nat.reduceLeDiff, one, Value.cells, Int.reduceLE, Int.reduceLT, Int.reduceToNat, add_mk, reduceCtorEq, List.mem_range'_1, true_and, and_true, and_false, false_and, Nat.reduceLT, Nat.reduceLeDiff, tyF, h6, h8, x0, gx0, ek]
      refine ⟨⟨?_, n + 1, bt x 0, adv (some a4) c4 (head6 p x) 1, x.drop (head6 p x), c4 - head6 p x, late6 p x, rfl, by rw [List.length_drop], rfl, rfl, by omega, hgo2.symm, bx0, bx1, Cs.advB (hA4.more hm6) hc4, by rw [List.length_drop]; omega, by rw [List.length_drop]; omega, hm46⟩, by simp only [numOf]; omega⟩
      repeat (first | exact Same.hv _ _ _ | refine Same.up (by simp) ?_)
  | false =>
    have hgo2 := go6_end (r := 8 - n) (x := x) hmo
    rw [hgo] at hgo2
    have hw0 : why6 l = 0 := by unfold why6; rw [hgo2]
    have hp6 : parse6 l = ⟨p, (l.drop 8).take 16, (l.drop 24).take 16, x, !later⟩ := by unfold parse6; rw [if_pos hw0, hgo2]
    have e16 : ((l.drop 8).take 16).length = 16 := by rw [List.length_take, List.length_drop]; omega
    have e16' : ((l.drop 24).take 16).length = 16 := by rw [List.length_take, List.length_drop]; omega
    have hsv : ∀ w', More w1 w' → Bs w' (adv (some a) c 8 1) ((l.drop 8).take 16) := fun w' h => Cs.takeB (Cs.advB (k := 8) (hA1.more h) hc) 16
    have hdv : ∀ w', More w1 w' → Bs w' (adv (some a) c 24 1) ((l.drop 24).take 16) := fun w' h => Cs.takeB (Cs.advB (k := 24) (hA1.more h) hc) 16
    generalize (l.drop 8).take 16 = sv at e16 hsv hp6
    generalize (l.drop 24).take 16 = dv at e16' hdv hp6
    cases hmp : more6 p with
    | false =>
      simp (config := {maxSteps := 1000000, implicitDefEqProofs := false}) only [↓zvD, zvU, ↓up_apply, ↓hv_apply, ↓upO_some, ↓upO_none, ↓ev_tmp, ↓ev_const, ↓ev_func, ↓ev_global, init, Nat.reduceEqDiff, Nat.reduceAdd, Nat.reduceMul, Nat.reduceSub, ↓reduceIte, Int.reduceEq, Int.reduceNe, Nat.reduceLeDiff, one, Value.cells, Int.reduceLE, Int.reduceLT, Int.reduceToNat, add_mk, reduceCtorEq, List.mem_range'_1, true_and, and_true, and_false, false_and, Nat.reduceLT, Nat.reduceLeDiff, tyF, h5, h6, h7, h8]
      refine call_ok Tryz.call89 (clone w5 A4 x c4 hA4 (by omega)) ?_
      rintro _ w7 ⟨A7, c7, rfl, ho7, hm7⟩
      have hm17 := hm4.trans hm7
      simp (config := {maxSteps := 1000000, implicitDefEqProofs := false}) only [↓zvD, zvU, ↓up_apply, ↓hv_apply, ↓upO_some, ↓upO_none, ↓ev_tmp, ↓ev_const, ↓ev_func, ↓ev_global, init, Nat.reduceEqDiff, Nat.reduceAdd, Nat.reduceMul, Nat.reduceSub, ↓reduceIte, Int.reduceEq, Int.reduceNe, Nat.reduceLeDiff, one, Value.cells, Int.reduceLE, Int.reduceLT, Int.reduceToNat, add_mk, reduceCtorEq, List.mem_range'_1, true_and, and_true, and_false, false_and, Nat.reduceLT, Nat.reduceLeDiff, tyF, h5, h7, mid_build _ A7 x c7 _ w, zerNet]
      have hfit : (NetM.mk p (noBytes 16) (noBytes 16) x (!later)).Fit := ⟨hp0, hp1, rfl, rfl⟩
      refine net_var (n := NetM.mk p (noBytes 16) (noBytes 16) x (!later)) hfit fun w8 hm8 hb8 hs8 => ?_
      have hm18 := hm17.trans hm8
      have h24c : 24 ≤ c := by omega
      have h40c : 40 ≤ c := by omega
      refine draw_seen 4 [[], [0], [], [2], [0, 1, 2, 3]] (RV.look []) mixed (by kernel_rfl) (by kernel_rfl) (look_keeps _ (by simp)) ?_
      simp (config := {maxSteps := 1000000, implicitDefEqProofs := false}) only [↓zvD, zvU, ↓zqD, ↓up_apply, ↓hv_apply, ↓upO_some, ↓upO_none, ↓ev_tmp, ↓ev_const, ↓ev_func, ↓ev_global, init, Nat.reduceEqDiff, Nat.reduceAdd, Nat.reduceMul, Nat.reduceSub, ↓reduceIte, Int.reduceEq, Int.reduceNe, Nat.reduceLeDiff, one, Value.cells, Int.reduceLE, Int.reduceLT, Int.reduceToNat, add_mk, reduceCtorEq, List.mem_range'_1, true_and, and_true, and_false, false_and, Nat.reduceLT, Nat.reduceLeDiff, tyF, h24c]
      intro w9 hm9
      refine copy_blk (news := sv.map byteV) Tryz.underlying40 cells5 (hb8.more hm9) (Cs.take (hsv _ (hm18.trans hm9)) _) (by simpa using e16) (byteV_one _) (by simp [NetM.cells_len hfit]) fun w10 k1 k2 => ?_
      rw [List.take_of_length_le (by simp [e16]), NetM.setSrc hfit _ _ _ e16] at k2
      have hfit2 : (NetM.mk p sv (noBytes 16) x (!later)).Fit := ⟨hp0, hp1, e16, rfl⟩
      have hm110 : More w1 w10 := k1.below (hm18.trans hm9) hm17.size
      simp (config := {maxSteps := 1000000, implicitDefEqProofs := false}) only [↓zvD, zvU, ↓up_apply, ↓hv_apply, ↓upO_some, ↓upO_none, ↓ev_tmp, ↓ev_const, ↓ev_func, ↓ev_global, init, Nat.reduceEqDiff, Nat.reduceAdd, Nat.reduceMul, Nat.reduceSub, ↓reduceIte, Int.reduceEq, Int.reduceNe, Nat.reduceLeDiff, one, Value.cells, Int.reduceLE, Int.reduceLT, Int.reduceToNat, add_mk, reduceCtorEq, List.mem_range'_1, true_and, and_true, and_false, false_and, Nat.reduceLT, Nat.reduceLeDiff, tyF]
      refine draw_seen 4 [[], [0], [], [2], [0, 1, 2, 3]] (RV.look []) mixed (by kernel_rfl) (by kernel_rfl) (look_keeps _ (by simp)) ?_
      simp (config := {maxSteps := 1000000, implicitDefEqProofs := false}) only [↓zvD, zvU, ↓zqD, ↓up_apply, ↓hv_apply, ↓upO_some, ↓upO_none, ↓ev_tmp, ↓ev_const, ↓ev_func, ↓ev_global, init, Nat.reduceEqDiff, Nat.reduceAdd, Nat.reduceMul, Nat.reduceSub, ↓reduceIte, Int.reduceEq, Int.reduceNe, Nat.reduceLeDiff, one, Value.cells, Int.reduceLE, Int.reduceLT, Int.reduceToNat, add_mk, reduceCtorEq, List.mem_range'_1, true_and, and_true, and_false, false_and, Nat.reduceLT, Nat.reduceLeDiff, tyF, h40c]
      intro w11 hm11
      refine copy_blk (news := dv.map byteV) Tryz.underlying40 cells5 (k2.more hm11) (Cs.take (hdv _ (hm110.trans hm11)) _) (by simpa using e16') (byteV_one _) (by simp [NetM.cells_len hfit2]) fun w12 k3 k4 => ?_
      rw [List.take_of_length_le (by simp [e16']), NetM.setDst hfit2 _ _ _ e16'] at k4
      have hfit3 : (NetM.mk p sv dv x (!later)).Fit := ⟨hp0, hp1, e16, e16'⟩
      have hm112 : More w1 w12 := k3.below (hm110.trans hm11) hm17.size
      have r12 := k4.all_eq 35 (NetM.cells_len hfit3 _ _)
      have hs17 := hm17.size
      simp (config := {maxSteps := 1000000, implicitDefEqProofs := false}) only [↓zvD, zvU, ↓up_apply, ↓hv_apply, ↓upO_some, ↓upO_none, ↓ev_tmp, ↓ev_const, ↓ev_func, ↓ev_global, init, Nat.reduceEqDiff, Nat.reduceAdd, Nat.reduceMul, Nat.reduceSub, ↓reduceIte, Int.reduceEq, Int.reduceNe, Nat.reduceLeDiff, one, Value.cells, Int.reduceLE, Int.reduceLT, Int.reduceToNat, add_mk, reduceCtorEq, List.mem_range'_1, true_and, and_true, and_false, false_and, Nat.reduceLT, Nat.reduceLeDiff, tyF, r12]
      refine st_all (hb1.more hm112) (by simpa using NetM.cells_len hfit3 _ _) rfl (by simpa using NetM.one _ _ _) fun w13 k5 k6 => ?_
      have r13 := k6.all_eq 35 (by simpa using NetM.cells_len hfit3 _ _)
      simp (config := {maxSteps := 1000000, implicitDefEqProofs := false}) only [↓zvD, zvU, ↓up_apply, ↓hv_apply, ↓upO_some, ↓upO_none, ↓ev_tmp, ↓ev_const, ↓ev_func, ↓ev_global, init, Nat.reduceEqDiff, Nat.reduceAdd, Nat.reduceMul, Nat.reduceSub, ↓reduceIte, Int.reduceEq, Int.reduceNe, Nat.reduceLeDiff, one, Value.cells, Int.reduceLE, Int.reduceLT, Int.reduceToNat, add_mk, reduceCtorEq, List.mem_range'_1, true_and, and_true, and_false, false_and, Nat.reduceLT, Nat.reduceLeDiff, tyF, r13]
      unfold Net6R
      rw [hp6, hw0]
      have ho8 := ho7.more hm8
      have hne : ∀ g, A7 = some ⟨g, 0, none⟩ → g ≠ w7.heap.size := ho8.ne_blk hb8 (by decide)
      have hne2 : ∀ g, A7 = some ⟨g, 0, none⟩ → g ≠ w.heap.size := (ho7.ne_blk (hb1.more hm17) (by decide))
      have ho13 := ((((ho8.more hm9).wr k1 hne).more hm11).wr k3 hne).wr k5 hne2
      exact ⟨A7, c7, rfl, Own.mono ho13 (Nat.le_trans hm1.size hm4.size), k5.below (hm1.trans hm112) (Nat.le_refl _)⟩
    | true =>
      have hla : later = true := by rw [hmp] at hmo; simpa using hmo
      subst hla
      simp (config := {maxSteps := 1000000, implicitDefEqProofs := false}) only [↓zvD, zvU, ↓up_apply, ↓hv_apply, ↓upO_some, ↓upO_none, ↓ev_tmp, ↓ev_const, ↓ev_func, ↓ev_global, init, Nat.reduceEqDiff, Nat.reduceAdd, Nat.reduceMul, Nat.reduceSub, ↓reduceIte, Int.reduceEq, Int.reduceNe, Nat.reduceLeDiff, one, Value.cells, Int.reduceLE, Int.reduceLT, Int.reduceToNat, add_mk, reduceCtorEq, List.mem_range'_1, true_and, and_true, and_false, false_and, Nat.reduceLT, Nat.reduceLeDiff, tyF, h5, h6, h7, h8]
      refine call_ok Tryz.call89 (clone w5 A4 x c4 hA4 (by omega)) ?_
      rintro _ w7 ⟨A7, c7, rfl, ho7, hm7⟩
      have hm17 := hm4.trans hm7
      simp (config := {maxSteps := 1000000, implicitDefEqProofs := false}) only [↓zvD, zvU, ↓up_apply, ↓hv_apply, ↓upO_some, ↓upO_none, ↓ev_tmp, ↓ev_const, ↓ev_func, ↓ev_global, init, Nat.reduceEqDiff, Nat.reduceAdd, Nat.reduceMul, Nat.reduceSub, ↓reduceIte, Int.reduceEq, Int.reduceNe, Nat.reduceLeDiff, one, Value.cells, Int.reduceLE, Int.reduceLT, Int.reduceToNat, add_mk, reduceCtorEq, List.mem_range'_1, true_and, and_true, and_false, false_and, Nat.reduceLT, Nat.reduceLeDiff, tyF, h5, h7, mid_build _ A7 x c7 _ w, zerNet]
      have hfit : (NetM.mk p (noBytes 16) (noBytes 16) x false).Fit := ⟨hp0, hp1, rfl, rfl⟩
      refine net_var (n := NetM.mk p (noBytes 16) (noBytes 16) x false) hfit fun w8 hm8 hb8 hs8 => ?_
      have hm18 := hm17.trans hm8
      have h24c : 24 ≤ c := by omega
      have h40c : 40 ≤ c := by omega
      refine draw_seen 4 [[], [0], [], [2], [0, 1, 2, 3]] (RV.look []) mixed (by kernel_rfl) (by kernel_rfl) (look_keeps _ (by simp)) ?_
      simp (config := {maxSteps := 1000000, implicitDefEqProofs := false}) only [↓zvD, zvU, ↓zqD, ↓up_apply, ↓hv_apply, ↓upO_some, ↓upO_none, ↓ev_tmp, ↓ev_const, ↓ev_func, ↓ev_global, init, Nat.reduceEqDiff, Nat.reduceAdd, Nat.reduceMul, Nat.reduceSub, ↓reduceIte, Int.reduceEq, Int.reduceNe, Nat.reduceLeDiff, one, Value.cells, Int.reduceLE, Int.reduceLT, Int.reduceToNat, add_mk, reduceCtorEq, List.mem_range'_1, true_and, and_true, and_false, false_and, Nat.reduceLT, Nat.reduceLeDiff, tyF, h24c]
      intro w9 hm9
      refine copy_blk (news := sv.map byteV) Tryz.underlying40 cells5 (hb8.more hm9) (Cs.take (hsv _ (hm18.trans hm9)) _) (by simpa using e16) (byteV_one _) (by simp [NetM.cells_len hfit]) fun w10 k1 k2 => ?_
      rw [List.take_of_length_le (by simp [e16]), NetM.setSrc hfit _ _ _ e16] at k2
      have hfit2 : (NetM.mk p sv (noBytes 16) x false).Fit := ⟨hp0, hp1, e16, rfl⟩
      have hm110 : More w1 w10 := k1.below (hm18.trans hm9) hm17.size
      simp (config := {maxSteps := 1000000, implicitDefEqProofs := false}) only [↓zvD, zvU, ↓up_apply, ↓hv_apply, ↓upO_some, ↓upO_none, ↓ev_tmp, ↓ev_const, ↓ev_func, ↓ev_global, init, Nat.reduceEqDiff, Nat.reduceAdd, Nat.reduceMul, Nat.reduceSub, ↓reduceIte, Int.reduceEq, Int.reduceNe, Nat.reduceLeDiff, one, Value.cells, Int.reduceLE, Int.reduceLT, Int.reduceToNat, add_mk, reduceCtorEq, List.mem_range'_1, true_and, and_true, and_false, false_and, Nat.reduceLT, Nat.reduceLeDiff, tyF]
      refine draw_seen 4 [[], [0], [], [2], [0, 1, 2, 3]] (RV.look []) mixed (by kernel_rfl) (by kernel_rfl) (look_keeps _ (by simp)) ?_
      simp (config := {maxSteps := 1000000, implicitDefEqProofs := false}) only [↓zvD, zvU, ↓zqD, ↓up_apply, ↓hv_apply, ↓upO_some, ↓upO_none, ↓ev_tmp, ↓ev_const, ↓ev_func, ↓ev_global, init, Nat.reduceEqDiff, Nat.reduceAdd, Nat.reduceMul, Nat.reduceSub, ↓reduceIte, Int.reduceEq, Int.reduceNe, Nat.reduceLeDiff, one, Value.cells, Int.reduceLE, Int.reduceLT, Int.reduceToNat, add_mk, reduceCtorEq, List.mem_range'_1, true_and, and_true, and_false, false_and, Nat.reduceLT, Nat.reduceLeDiff, tyF, h40c]
      intro w11 hm11
      refine copy_blk (news := dv.map byteV) Tryz.underlying40 cells5 (k2.more hm11) (Cs.take (hdv _ (hm110.trans hm11)) _) (by simpa using e16') (byteV_one _) (by simp [NetM.cells_len hfit2]) fun w12 k3 k4 => ?_
      rw [List.take_of_length_le (by simp [e16']), NetM.setDst hfit2 _ _ _ e16'] at k4
      have hfit3 : (NetM.mk p sv dv x false).Fit := ⟨hp0, hp1, e16, e16'⟩
      have hm112 : More w1 w12 := k3.below (hm110.trans hm11) hm17.size
      have r12 := k4.all_eq 35 (NetM.cells_len hfit3 _ _)
      have hs17 := hm17.size
      simp (config := {maxSteps := 1000000, implicitDefEqProofs := false}) only [↓zvD, zvU, ↓up_apply, ↓hv_apply, ↓upO_some, ↓upO_none, ↓ev_tmp, ↓ev_const, ↓ev_func, ↓ev_global, init, Nat.reduceEqDiff, Nat.reduceAdd, Nat.reduceMul, Nat.reduceSub, ↓reduceIte, Int.reduceEq, Int.reduceNe, Nat.reduceLeDiff, one, Value.cells, Int.reduceLE, Int.reduceLT, Int.reduceToNat, add_mk, reduceCtorEq, List.mem_range'_1, true_and, and_true, and_false, false_and, Nat.reduceLT, Nat.reduceLeDiff, tyF, r12]
      refine st_all (hb1.more hm112) (by simpa using NetM.cells_len hfit3 _ _) rfl (by simpa using NetM.one _ _ _) fun w13 k5 k6 => ?_
      have r13 := k6.all_eq 35 (by simpa using NetM.cells_len hfit3 _ _)
      simp (config := {maxSteps := 1000000, implicitDefEqProofs := false}) only [↓zvD, zvU, ↓up_apply, ↓hv_apply, ↓upO_some, ↓upO_none, ↓ev_tmp, ↓ev_const, ↓ev_func, ↓ev_global, init, Nat.reduceEqDiff, Nat.reduceAdd, Nat.reduceMul, Nat.reduceSub, ↓reduceIte, Int.reduceEq, Int.reduceNe, Nat.reduceLeDiff, one, Value.cells, Int.reduceLE, Int.reduceLT, Int.reduceToNat, add_mk, reduceCtorEq, List.mem_range'_1, true_and, and_true, and_false, false_and, Nat.reduceLT, Nat.reduceLeDiff, tyF, r13]
      unfold Net6R
      rw [hp6, hw0]
      have ho8 := ho7.more hm8
      have hne : ∀ g, A7 = some ⟨g, 0, none⟩ → g ≠ w7.heap.size := ho8.ne_blk hb8 (by decide)
      have hne2 : ∀ g, A7 = some ⟨g, 0, none⟩ → g ≠ w.heap.size := (ho7.ne_blk (hb1.more hm17) (by decide))
      have ho13 := ((((ho8.more hm9).wr k1 hne).more hm11).wr k3 hne).wr k5 hne2
      exact ⟨A7, c7, rfl, Own.mono ho13 (Nat.le_trans hm1.size hm4.size), k5.below (hm1.trans hm112) (Nat.le_refl _)⟩
end Go.Proofs.YtahcaplhdgphcaaGreat
