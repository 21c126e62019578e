/-
  Layer 29: StatsCount; what came in.
-/
import Derived.Test.YtgbhgjghlnknjaaLaw29R
namespace Go.Proofs.Ytgbhgjghlnknjaa
open Go Go.RowKit Go.Proofs.RV
set_option linter.unusedSimpArgs false
set_option linter.unusedVariables false
set_option maxRecDepth 10000
set_option maxHeartbeats 4000000

theorem added_row {w : World} {k : Nat} {cs : List Value} (h : Lays Try.prog w k 61 cs) :
    ∃ (A : Option Addr) (l : List AddedM) (c : Nat), cs = [.slice A l.length c] ∧ l.length ≤ c ∧ Cs w A (l.flatMap AddedM.cells) ∧ ∀ a ∈ l, True := by
  refine h.rowOf Try.underlying61 cells79 (by omega) AddedM.cells_len _ fun k cs' h' hl => ?_
  obtain ⟨_, f0⟩ := h'.fieldAt Try.underlying79 0 4 0 rfl cells4
  obtain ⟨_, f1⟩ := h'.fieldAt Try.underlying79 1 3 1 rfl cells3
  obtain ⟨_, f2⟩ := h'.fieldAt Try.underlying79 2 2 2 rfl cells2
  obtain ⟨b, e0⟩ := f0.bool Try.underlying4
  obtain ⟨x, e1, _⟩ := f1.int Try.underlying3
  obtain ⟨y, e2, _⟩ := f2.int Try.underlying2
  match cs', hl with
  | [u, v, z], _ =>
    simp at e0 e1 e2
    subst e0 e1 e2
    exact ⟨⟨b, x, y⟩, rfl, trivial⟩
theorem bump_range {s : List Int} (h : ∀ x ∈ s, 0 ≤ x ∧ x ≤ 4611686018427387904) (k : Nat) (n : Int) : ∀ x ∈ bump s k n, 0 ≤ x ∧ x ≤ 4611686018427387904 := by
  intro x hx
  rcases List.mem_or_eq_of_mem_set hx with h1 | rfl
  · exact h x h1
  · exact addM_range _ _
theorem cnt_range : ∀ (l : List AddedM) (s : List Int), (∀ x ∈ s, 0 ≤ x ∧ x ≤ 4611686018427387904) → ∀ x ∈ cntM s l, 0 ≤ x ∧ x ≤ 4611686018427387904
  | [], s, h => h
  | a :: l, s, h => by
    refine cnt_range l (cnt1 s a) ?_
    unfold cnt1
    split <;> split
    · exact bump_range h _ _
    · exact h
    · exact bump_range h _ _
    · exact h
theorem cnt_range0 (l : List AddedM) : ∀ x ∈ cntM z31 l, 0 ≤ x ∧ x ≤ 4611686018427387904 := cnt_range l z31 (by intro x hx; have := List.eq_of_mem_replicate hx; omega)
theorem count_id {x : Int} (h : 0 ≤ x ∧ x ≤ 4611686018427387904) : countM x = x := by unfold countM; omega
theorem encM_step (s : List Int) {k : Nat} (h : k < s.length) : encM (s.take (k + 1)) = encM (s.take k) ++ numB (countM (s.getD k 0)) 8 := by
  rw [List.take_succ_eq_append_getElem h, encM_append, encM, encM, List.append_nil]
  simp [h]
def SameJ (p q : Nat) (l : List AddedM) (w w0 : World) (v21 : Value) (w' : World) : Prop :=
  ∃ k : Nat, v21 = .int .i64 k ∧ k ≤ l.length ∧ Blk w' p 65 (ints (cntM z31 (l.take k))) ∧ Blk w' q 77 (ints (cntM z31 (l.take k))) ∧ More w w'
def ByteJ (s : List Int) (w4 : World) (v7 v92 : Value) (w' : World) : Prop :=
  ∃ (k : Nat) (A : Option Addr) (c : Nat), v92 = .int .i64 k ∧ k ≤ 31 ∧ v7 = .slice A (encM (s.take k)).length c ∧ Own w' w4.heap.size 5 1 A (encM (s.take k)).length c ((encM (s.take k)).map byteV) ∧ More w4 w'
theorem stats_count (w : World) (A : Option Addr) (l : List AddedM) (c : Nat) (hA : Cs w A (l.flatMap AddedM.cells)) (hc : l.length ≤ c) :
    Ret Try.prog 15 #[.slice A l.length c] w fun v w' => v = .bool true ∧ More w w' := by
  refine ret_of Try.func15 rfl (by kernel_rfl) (Nat.le_of_ble_eq_true (by kernel_rfl)) ?_
  simp (config := {maxSteps := 1000000}) only [↓zvD, zvU, ↓up_apply, ↓hv_apply, ↓upO_some, ↓upO_none, ↓ev_tmp, ↓ev_const, ↓ev_func, ↓ev_global, init, Nat.reduceEqDiff, Nat.reduceAdd, Nat.reduceMul, Nat.reduceSub, ↓reduceIte, Int.reduceEq, Int.reduceNe, Nat.reduceLeDiff, one, Value.cells, Int.reduceLE, Int.reduceLT, Int.reduceToNat, add_mk, reduceCtorEq, List.mem_range'_1, true_and, and_true, and_false, false_and, Nat.reduceLT, Nat.reduceLeDiff, tyF]
  refine call_ok Try.call33 (law29_awake w) ?_
  rintro _ w1 ⟨rfl, hm1⟩
  simp (config := {maxSteps := 1000000}) only [↓zvD, zvU, ↓up_apply, ↓hv_apply, ↓upO_some, ↓upO_none, ↓ev_tmp, ↓ev_const, ↓ev_func, ↓ev_global, init, Nat.reduceEqDiff, Nat.reduceAdd, Nat.reduceMul, Nat.reduceSub, ↓reduceIte, Int.reduceEq, Int.reduceNe, Nat.reduceLeDiff, one, Value.cells, Int.reduceLE, Int.reduceLT, Int.reduceToNat, add_mk, reduceCtorEq, List.mem_range'_1, true_and, and_true, and_false, false_and, Nat.reduceLT, Nat.reduceLeDiff, tyF]
  refine ⟨fun h60 => ?_, fun h60 => ?_⟩
  · refine call_ok Try.call33 (law29_awake w1) ?_
    rintro _ w2 ⟨rfl, hm2⟩
    simp (config := {maxSteps := 1000000}) only [↓zvD, zvU, ↓up_apply, ↓hv_apply, ↓upO_some, ↓upO_none, ↓ev_tmp, ↓ev_const, ↓ev_func, ↓ev_global, init, Nat.reduceEqDiff, Nat.reduceAdd, Nat.reduceMul, Nat.reduceSub, ↓reduceIte, Int.reduceEq, Int.reduceNe, Nat.reduceLeDiff, one, Value.cells, Int.reduceLE, Int.reduceLT, Int.reduceToNat, add_mk, reduceCtorEq, List.mem_range'_1, true_and, and_true, and_false, false_and, Nat.reduceLT, Nat.reduceLeDiff, tyF]
    exact hm1.trans hm2
  have z77 : zer Try.prog 77 = some (.agg (ints z31).toArray) := by rw [zer77]; rfl
  simp (config := {maxSteps := 1000000}) only [↓zvD, zvU, ↓up_apply, ↓hv_apply, ↓upO_some, ↓upO_none, ↓ev_tmp, ↓ev_const, ↓ev_func, ↓ev_global, init, Nat.reduceEqDiff, Nat.reduceAdd, Nat.reduceMul, Nat.reduceSub, ↓reduceIte, Int.reduceEq, Int.reduceNe, Nat.reduceLeDiff, one, Value.cells, Int.reduceLE, Int.reduceLT, Int.reduceToNat, add_mk, reduceCtorEq, List.mem_range'_1, true_and, and_true, and_false, false_and, Nat.reduceLT, Nat.reduceLeDiff, tyF, zerStats, z77]
  have hm2 := more_alloc w1 (.cells (ints z31).toArray 65)
  have hb2 := Blk.new w1 65 (ints z31).toArray
  have s2 := size_alloc w1 (.cells (ints z31).toArray 65)
  generalize w1.alloc (.cells (ints z31).toArray 65) = w2 at hm2 hb2 s2 ⊢
  have hm3 := more_alloc w2 (.cells (ints z31).toArray 77)
  have hb3 := Blk.new w2 77 (ints z31).toArray
  have s3 := size_alloc w2 (.cells (ints z31).toArray 77)
  generalize w2.alloc (.cells (ints z31).toArray 77) = w3 at hm3 hb3 s3 ⊢
  rw [List.toList_toArray] at hb2 hb3
  have hb23 := hb2.more hm3
  have hm := (hm1.trans hm2).trans hm3
  have hp := hm1.size
  generalize hpp : w1.heap.size = p at *
  generalize hqq : w2.heap.size = q at *
  refine loop_p [5, 6, 21, 22, 23, 24, 25, 26, 27, 28, 29, 30, 31, 32, 33, 34, 35, 36, 37, 38, 39, 40, 41, 42, 43, 44, 45, 46, 47, 48, 49, 50, 51, 52, 53, 54, 55, 56, 57, 58, 59, 60, 61, 62, 63, 64, 65, 66, 67, 68, 69, 70, 71, 72, 73, 74, 75, 76, 77, 78, 79, 80, 81, 82, 83, 84, 85, 86, 87, 88, 89, 90, 91] (fun e w' => SameJ p q l w w3 (e 21) w') (fun e _ => l.length - (numOf (e 21)).toNat) ?_ ?_
  · exact ⟨0, by simp only [hv_apply, up_apply, upO_some, upO_none, init, List.mem_cons, List.mem_range'_1, true_and, and_true, and_false, false_and, Nat.reduceLT, Nat.reduceLeDiff, Nat.reduceAdd, true_or, or_true, if_true, if_false, ↓reduceIte, Nat.reduceEqDiff, false_or, or_false, List.not_mem_nil, List.getElem?_cons_zero, List.getElem?_cons_succ, Option.getD_some] <;> rfl, by omega, hb23, hb3, hm⟩
  rintro v w4 ⟨k, h21, hk, hs4, ha4, hm4⟩
  simp only [hv_apply, up_apply, upO_some, upO_none, init, List.mem_cons, List.mem_range'_1, true_and, and_true, and_false, false_and, Nat.reduceLT, Nat.reduceLeDiff, Nat.reduceAdd, true_or, or_true, if_true, if_false, ↓reduceIte, Nat.reduceEqDiff, false_or, or_false, List.not_mem_nil, List.getElem?_cons_zero, List.getElem?_cons_succ, Option.getD_some] at h21
  have ek : IntKind.i64.wrap ((k : Int) + 1) = ((k + 1 : Nat) : Int) := w64 (by omega) (by omega)
  have g0 : (0 : Int) ≤ (k : Int) := by omega
  simp (config := {maxSteps := 1000000}) only [↓zvD, zvU, ↓up_apply, ↓hv_apply, ↓upO_some, ↓upO_none, ↓ev_tmp, ↓ev_const, ↓ev_func, ↓ev_global, init, Nat.reduceEqDiff, Nat.reduceAdd, Nat.reduceMul, Nat.reduceSub, ↓reduceIte, Int.reduceEq, Int.reduceNe, Nat.reduceLeDiff, one, Value.cells, Int.reduceLE, Int.reduceLT, Int.reduceToNat, add_mk, reduceCtorEq, List.mem_range'_1, true_and, and_true, and_false, false_and, Nat.reduceLT, Nat.reduceLeDiff, tyF, h21]
  refine ⟨fun h9 => ?_, fun h9 => ?_⟩
  · have hk1 : k < l.length := by omega
    obtain ⟨m, hm'⟩ := row_nat (p := fun _ => true) l k hk1
    have hA4 := hA.more hm4
    obtain ⟨a, rfl⟩ := hA4.some_of (by rw [row_len AddedM.cells_len]; omega)
    have c0 : w4.cell? ((a.add (k * 3)).add 0) = some (.bool m.because) := hA4.elemA AddedM.cells_len hm' (j := 0) (by omega)
    have c1 : w4.cell? ((a.add (k * 3)).add 1) = some (.int .i64 m.kind) := hA4.elemA AddedM.cells_len hm' (j := 1) (by omega)
    have c2 : w4.cell? ((a.add (k * 3)).add 2) = some (.int .i64 m.n) := hA4.elemA AddedM.cells_len hm' (j := 2) (by omega)
    have hst := cntM_step z31 l hm'
    have hlen : (cntM z31 (l.take k)).length = 31 := by rw [cntM_len]; rfl
    have hrow : ∀ w5, More w w5 → w5.cell? ((a.add (k * 3)).add 1) = some (.int .i64 m.kind) ∧ w5.cell? ((a.add (k * 3)).add 2) = some (.int .i64 m.n) := fun w5 h5 =>
      ⟨(hA.more h5).elemA AddedM.cells_len hm' (j := 1) (by omega), (hA.more h5).elemA AddedM.cells_len hm' (j := 2) (by omega)⟩
    simp (config := {maxSteps := 1000000}) only [↓zvD, zvU, ↓up_apply, ↓hv_apply, ↓upO_some, ↓upO_none, ↓ev_tmp, ↓ev_const, ↓ev_func, ↓ev_global, init, Nat.reduceEqDiff, Nat.reduceAdd, Nat.reduceMul, Nat.reduceSub, ↓reduceIte, Int.reduceEq, Int.reduceNe, Nat.reduceLeDiff, one, Value.cells, Int.reduceLE, Int.reduceLT, Int.reduceToNat, add_mk, reduceCtorEq, List.mem_range'_1, true_and, and_true, and_false, false_and, Nat.reduceLT, Nat.reduceLeDiff, tyF, h21, g0, h9, c0, c1, Int.toNat_natCast]
    have done : ∀ w5 o, cnt1 (cntM z31 (l.take k)) m = putAt (cntM z31 (l.take k)) o m.n → Blk w5 p 65 (ints (cnt1 (cntM z31 (l.take k)) m)) → Blk w5 q 77 (ints (putAt (cntM z31 (l.take k)) o m.n)) → More w w5 → SameJ p q l w w3 (.int .i64 ((k + 1 : Nat) : Int)) w5 := by
      intro w5 o ho h1 h2 h3
      rw [← ho] at h2
      rw [← hst] at h1 h2
      exact ⟨k + 1, rfl, by omega, h1, h2, h3⟩
    have hat := cnt1_at (cntM z31 (l.take k)) m
    generalize hs : cntM z31 (l.take k) = s at *
    refine ⟨fun hbec => ?_, fun hbec => ?_⟩
    · refine draw_name fun K hK => ?_
      refine draw_seen 10 [[], [], [0, 1], [0, 1, 2], [0, 1, 2, 3], [], [], [5, 6], [5, 6, 7], [5, 6, 7, 8], [0, 1, 2, 3, 4, 5, 6, 7, 8, 9]] (RV.look []) mixed (by kernel_rfl) (by kernel_rfl) (look_keeps _ (by simp)) ?_
      simp (config := {maxSteps := 1000000}) only [↓zvD, zvU, ↓zqD, ↓up_apply, ↓hv_apply, ↓upO_some, ↓upO_none, ↓ev_tmp, ↓ev_const, ↓ev_func, ↓ev_global, init, Nat.reduceEqDiff, Nat.reduceAdd, Nat.reduceMul, Nat.reduceSub, ↓reduceIte, Int.reduceEq, Int.reduceNe, Nat.reduceLeDiff, one, Value.cells, Int.reduceLE, Int.reduceLT, Int.reduceToNat, add_mk, reduceCtorEq, List.mem_range'_1, true_and, and_true, and_false, false_and, Nat.reduceLT, Nat.reduceLeDiff, tyF, h21, g0, h9, c1, c2, Int.toNat_natCast]
      intro w5 hm5
      refine call_ok Try.call38 (stats_because w5 p _ m.kind m.n hlen (hs4.more hm5)) ?_
      rintro _ w6 ⟨rfl, hb6, hm6⟩
      refine hK _ _ ?_
      clear hK K
      have ha6 := hm6.blk (ha4.more hm5) (by omega)
      have hM6 : More w w6 := hm6.more (hm4.trans hm5) (fun k hk hq => by omega)
      have hr6 := hrow w6 hM6
      simp (config := {maxSteps := 1000000}) only [↓zvD, zvU, ↓up_apply, ↓hv_apply, ↓upO_some, ↓upO_none, ↓ev_tmp, ↓ev_const, ↓ev_func, ↓ev_global, init, Nat.reduceEqDiff, Nat.reduceAdd, Nat.reduceMul, Nat.reduceSub, ↓reduceIte, Int.reduceEq, Int.reduceNe, Nat.reduceLeDiff, one, Value.cells, Int.reduceLE, Int.reduceLT, Int.reduceToNat, add_mk, reduceCtorEq, List.mem_range'_1, true_and, and_true, and_false, false_and, Nat.reduceLT, Nat.reduceLeDiff, tyF, p_nil, h21, g0, h9, hr6.1, hr6.2, Int.toNat_natCast]
      rw [show (if 0 ≤ m.kind ∧ m.kind < 16 then bump s (15 + m.kind.toNat) m.n else s) = cnt1 s m by unfold cnt1; rw [if_pos hbec]] at hb6
      refine ⟨fun hk0 => ⟨fun hk1 => ?_, fun hk1 => ?_⟩, fun hk0 => ?_⟩
      · obtain ⟨y, hy⟩ := Int.eq_ofNat_of_zero_le hk0
        have ey : IntKind.i64.wrap (15 + m.kind) = ((15 + y : Nat) : Int) := by rw [hy, show (15 : Int) + ((y : Nat) : Int) = ((15 + y : Nat) : Int) by omega]; exact w64 (by omega) (by omega)
        have ha : m.at_ = some (15 + y) := by unfold AddedM.at_; rw [if_pos hbec, if_pos ⟨hk0, hk1⟩, hy]; rfl
        rw [ha] at hat
        rw [ey]
        have gy : (0 : Int) ≤ ((15 + y : Nat) : Int) := by omega
        have gy31 : ((15 + y : Nat) : Int) < 31 := by omega
        have hj : 15 + y < 31 := by omega
        generalize 15 + y = j at *
        refine ⟨fun _ => ?_, fun hh => absurd gy (by omega)⟩
        have c2b := hr6.2
        have cq : w6.cell? ⟨q, j, none⟩ = some (.int .i64 (s.getD j 0)) := by rw [ha6.cell]; exact ints_at (by omega)
        refine draw_name fun K hK => ?_
        refine draw_seen 10 [[], [], [1], [1, 2], [], [], [4, 5], [4, 5, 6], [4, 5, 6, 7], [1, 2, 3, 4, 5, 6, 7, 8], [0, 1, 2, 3, 4, 5, 6, 7, 8, 9], [0, 1, 2, 3, 4, 5, 6, 7, 8, 9, 10]] (RV.look [(9, RV.IsV (.int .i64 (addM (s.getD j 0) m.n)))]) mixed (by kernel_rfl) (by kernel_rfl) (look_keeps _ (by simp [keepsV])) ?_
        simp (config := {maxSteps := 1000000}) only [↓zvD, zvU, ↓zqD, ↓up_apply, ↓hv_apply, ↓upO_some, ↓upO_none, ↓ev_tmp, ↓ev_const, ↓ev_func, ↓ev_global, init, Nat.reduceEqDiff, Nat.reduceAdd, Nat.reduceMul, Nat.reduceSub, ↓reduceIte, Int.reduceEq, Int.reduceNe, Nat.reduceLeDiff, one, Value.cells, Int.reduceLE, Int.reduceLT, Int.reduceToNat, add_mk, reduceCtorEq, List.mem_range'_1, true_and, and_true, and_false, false_and, Nat.reduceLT, Nat.reduceLeDiff, tyF, h21, g0, h9, gy, gy31, c2b, cq, Int.toNat_natCast, Nat.zero_add]
        refine ⟨fun w7 hm7 => call_ok Try.call40 (ref_add w7 _ _) ?_, ?_⟩
        · rintro _ w8 ⟨rfl, rfl⟩
          simp (config := {maxSteps := 1000000}) only [↓zvD, zvU, ↓zqD, ↓up_apply, ↓hv_apply, ↓upO_some, ↓upO_none, ↓ev_tmp, ↓ev_const, ↓ev_func, ↓ev_global, init, Nat.reduceEqDiff, Nat.reduceAdd, Nat.reduceMul, Nat.reduceSub, ↓reduceIte, Int.reduceEq, Int.reduceNe, Nat.reduceLeDiff, one, Value.cells, Int.reduceLE, Int.reduceLT, Int.reduceToNat, add_mk, reduceCtorEq, List.mem_range'_1, true_and, and_true, and_false, false_and, Nat.reduceLT, Nat.reduceLeDiff]
          exact ⟨More.refl _, rfl⟩
        rintro _ ⟨w7, hm7, rfl⟩
        simp (config := {maxSteps := 1000000}) only [↓zvD, zvU, ↓zqD, ↓up_apply, ↓hv_apply, ↓upO_some, ↓upO_none, ↓ev_tmp, ↓ev_const, ↓ev_func, ↓ev_global, init, Nat.reduceEqDiff, Nat.reduceAdd, Nat.reduceMul, Nat.reduceSub, ↓reduceIte, Int.reduceEq, Int.reduceNe, Nat.reduceLeDiff, one, Value.cells, Int.reduceLE, Int.reduceLT, Int.reduceToNat, add_mk, reduceCtorEq, List.mem_range'_1, true_and, and_true, and_false, false_and, Nat.reduceLT, Nat.reduceLeDiff, tyF, h21, g0, h9, gy, gy31, c2b, cq, Int.toNat_natCast, Nat.zero_add]
        intro w8 hm8 _
        refine st_cell (ha6.more hm8) (by rw [ints_len, hlen]; omega) rfl fun w9 k1 k2 => ?_
        rw [ints_bump] at k2
        refine hK _ _ ?_
        clear hK K
        have hx := done w9 (some j) hat (k1.blk (hb6.more hm8) (by omega)) k2 (k1.below (hM6.trans hm8) (by omega))
        simp (config := {maxSteps := 1000000}) only [↓zvD, zvU, ↓up_apply, ↓hv_apply, ↓upO_some, ↓upO_none, ↓ev_tmp, ↓ev_const, ↓ev_func, ↓ev_global, init, Nat.reduceEqDiff, Nat.reduceAdd, Nat.reduceMul, Nat.reduceSub, ↓reduceIte, Int.reduceEq, Int.reduceNe, Nat.reduceLeDiff, one, Value.cells, Int.reduceLE, Int.reduceLT, Int.reduceToNat, add_mk, reduceCtorEq, List.mem_range'_1, true_and, and_true, and_false, false_and, Nat.reduceLT, Nat.reduceLeDiff, tyF, p_nil, h21, ek]
        refine ⟨⟨?_, hx⟩, by simp only [numOf]; omega⟩
        repeat (first | exact Same.hv _ _ _ | refine Same.up (by simp) ?_)
      · have ha : m.at_ = none := by unfold AddedM.at_; rw [if_pos hbec, if_neg (by omega)]
        rw [ha] at hat
        rw [ek]
        refine ⟨⟨?_, done w6 none hat hb6 ha6 hM6⟩, by simp only [numOf]; omega⟩
        repeat (first | exact Same.hv _ _ _ | refine Same.up (by simp) ?_)
      · have ha : m.at_ = none := by unfold AddedM.at_; rw [if_pos hbec, if_neg (by omega)]
        rw [ha] at hat
        rw [ek]
        refine ⟨⟨?_, done w6 none hat hb6 ha6 hM6⟩, by simp only [numOf]; omega⟩
        repeat (first | exact Same.hv _ _ _ | refine Same.up (by simp) ?_)
    · refine draw_name fun K hK => ?_
      refine draw_seen 10 [[], [], [0, 1], [0, 1, 2], [0, 1, 2, 3], [], [], [5, 6], [5, 6, 7], [5, 6, 7, 8], [0, 1, 2, 3, 4, 5, 6, 7, 8, 9]] (RV.look []) mixed (by kernel_rfl) (by kernel_rfl) (look_keeps _ (by simp)) ?_
      simp (config := {maxSteps := 1000000}) only [↓zvD, zvU, ↓zqD, ↓up_apply, ↓hv_apply, ↓upO_some, ↓upO_none, ↓ev_tmp, ↓ev_const, ↓ev_func, ↓ev_global, init, Nat.reduceEqDiff, Nat.reduceAdd, Nat.reduceMul, Nat.reduceSub, ↓reduceIte, Int.reduceEq, Int.reduceNe, Nat.reduceLeDiff, one, Value.cells, Int.reduceLE, Int.reduceLT, Int.reduceToNat, add_mk, reduceCtorEq, List.mem_range'_1, true_and, and_true, and_false, false_and, Nat.reduceLT, Nat.reduceLeDiff, tyF, h21, g0, h9, c1, c2, Int.toNat_natCast]
      intro w5 hm5
      refine call_ok Try.call39 (stats_add w5 p _ m.kind m.n hlen (hs4.more hm5)) ?_
      rintro _ w6 ⟨rfl, hb6, hm6⟩
      refine hK _ _ ?_
      clear hK K
      have ha6 := hm6.blk (ha4.more hm5) (by omega)
      have hM6 : More w w6 := hm6.more (hm4.trans hm5) (fun k hk hq => by omega)
      have hr6 := hrow w6 hM6
      simp (config := {maxSteps := 1000000}) only [↓zvD, zvU, ↓up_apply, ↓hv_apply, ↓upO_some, ↓upO_none, ↓ev_tmp, ↓ev_const, ↓ev_func, ↓ev_global, init, Nat.reduceEqDiff, Nat.reduceAdd, Nat.reduceMul, Nat.reduceSub, ↓reduceIte, Int.reduceEq, Int.reduceNe, Nat.reduceLeDiff, one, Value.cells, Int.reduceLE, Int.reduceLT, Int.reduceToNat, add_mk, reduceCtorEq, List.mem_range'_1, true_and, and_true, and_false, false_and, Nat.reduceLT, Nat.reduceLeDiff, tyF, p_nil, h21, g0, h9, hr6.1, hr6.2, Int.toNat_natCast]
      rw [show (if 0 ≤ m.kind ∧ m.kind < 15 then bump s m.kind.toNat m.n else s) = cnt1 s m by unfold cnt1; rw [if_neg (c := m.because = true) (by simp [hbec])]] at hb6
      refine ⟨fun hk1 => ?_, fun hk1 => ?_⟩
      · have ha : m.at_ = none := by unfold AddedM.at_; rw [if_neg (by simp [hbec]), if_neg (by omega)]
        rw [ha] at hat
        rw [ek]
        refine ⟨⟨?_, done w6 none hat hb6 ha6 hM6⟩, by simp only [numOf]; omega⟩
        repeat (first | exact Same.hv _ _ _ | refine Same.up (by simp) ?_)
      · refine ⟨fun hk0 => ?_, fun hk0 => ?_⟩
        · obtain ⟨j, hy⟩ := Int.eq_ofNat_of_zero_le hk0
          have ha : m.at_ = some j := by unfold AddedM.at_; rw [if_neg (by simp [hbec]), if_pos ⟨hk0, hk1⟩, hy]; rfl
          rw [ha] at hat
          have gy : (0 : Int) ≤ (j : Int) := by omega
          have gy31 : (j : Int) < 31 := by omega
          have hj : j < 31 := by omega
          rw [hy]
          have c2b := hr6.2
          have cq : w6.cell? ⟨q, j, none⟩ = some (.int .i64 (s.getD j 0)) := by rw [ha6.cell]; exact ints_at (by omega)
          refine draw_name fun K hK => ?_
          refine draw_seen 10 [[], [], [1], [1, 2], [], [], [4, 5], [4, 5, 6], [4, 5, 6, 7], [1, 2, 3, 4, 5, 6, 7, 8], [0, 1, 2, 3, 4, 5, 6, 7, 8, 9], [0, 1, 2, 3, 4, 5, 6, 7, 8, 9, 10]] (RV.look [(9, RV.IsV (.int .i64 (addM (s.getD j 0) m.n)))]) mixed (by kernel_rfl) (by kernel_rfl) (look_keeps _ (by simp [keepsV])) ?_
          simp (config := {maxSteps := 1000000}) only [↓zvD, zvU, ↓zqD, ↓up_apply, ↓hv_apply, ↓upO_some, ↓upO_none, ↓ev_tmp, ↓ev_const, ↓ev_func, ↓ev_global, init, Nat.reduceEqDiff, Nat.reduceAdd, Nat.reduceMul, Nat.reduceSub, ↓reduceIte, Int.reduceEq, Int.reduceNe, Nat.reduceLeDiff, one, Value.cells, Int.reduceLE, Int.reduceLT, Int.reduceToNat, add_mk, reduceCtorEq, List.mem_range'_1, true_and, and_true, and_false, false_and, Nat.reduceLT, Nat.reduceLeDiff, tyF, h21, g0, h9, gy, gy31, c2b, cq, Int.toNat_natCast, Nat.zero_add]
          refine ⟨fun w7 hm7 => call_ok Try.call40 (ref_add w7 _ _) ?_, ?_⟩
          · rintro _ w8 ⟨rfl, rfl⟩
            simp (config := {maxSteps := 1000000}) only [↓zvD, zvU, ↓zqD, ↓up_apply, ↓hv_apply, ↓upO_some, ↓upO_none, ↓ev_tmp, ↓ev_const, ↓ev_func, ↓ev_global, init, Nat.reduceEqDiff, Nat.reduceAdd, Nat.reduceMul, Nat.reduceSub, ↓reduceIte, Int.reduceEq, Int.reduceNe, Nat.reduceLeDiff, one, Value.cells, Int.reduceLE, Int.reduceLT, Int.reduceToNat, add_mk, reduceCtorEq, List.mem_range'_1, true_and, and_true, and_false, false_and, Nat.reduceLT, Nat.reduceLeDiff]
            exact ⟨More.refl _, rfl⟩
          rintro _ ⟨w7, hm7, rfl⟩
          simp (config := {maxSteps := 1000000}) only [↓zvD, zvU, ↓zqD, ↓up_apply, ↓hv_apply, ↓upO_some, ↓upO_none, ↓ev_tmp, ↓ev_const, ↓ev_func, ↓ev_global, init, Nat.reduceEqDiff, Nat.reduceAdd, Nat.reduceMul, Nat.reduceSub, ↓reduceIte, Int.reduceEq, Int.reduceNe, Nat.reduceLeDiff, one, Value.cells, Int.reduceLE, Int.reduceLT, Int.reduceToNat, add_mk, reduceCtorEq, List.mem_range'_1, true_and, and_true, and_false, false_and, Nat.reduceLT, Nat.reduceLeDiff, tyF, h21, g0, h9, gy, gy31, c2b, cq, Int.toNat_natCast, Nat.zero_add]
          intro w8 hm8 _
          refine st_cell (ha6.more hm8) (by rw [ints_len, hlen]; omega) rfl fun w9 k1 k2 => ?_
          rw [ints_bump] at k2
          refine hK _ _ ?_
          clear hK K
          have hx := done w9 (some j) hat (k1.blk (hb6.more hm8) (by omega)) k2 (k1.below (hM6.trans hm8) (by omega))
          simp (config := {maxSteps := 1000000}) only [↓zvD, zvU, ↓up_apply, ↓hv_apply, ↓upO_some, ↓upO_none, ↓ev_tmp, ↓ev_const, ↓ev_func, ↓ev_global, init, Nat.reduceEqDiff, Nat.reduceAdd, Nat.reduceMul, Nat.reduceSub, ↓reduceIte, Int.reduceEq, Int.reduceNe, Nat.reduceLeDiff, one, Value.cells, Int.reduceLE, Int.reduceLT, Int.reduceToNat, add_mk, reduceCtorEq, List.mem_range'_1, true_and, and_true, and_false, false_and, Nat.reduceLT, Nat.reduceLeDiff, tyF, p_nil, h21, ek]
          refine ⟨⟨?_, hx⟩, by simp only [numOf]; omega⟩
          repeat (first | exact Same.hv _ _ _ | refine Same.up (by simp) ?_)
        · have ha : m.at_ = none := by unfold AddedM.at_; rw [if_neg (by simp [hbec]), if_neg (by omega)]
          rw [ha] at hat
          rw [ek]
          refine ⟨⟨?_, done w6 none hat hb6 ha6 hM6⟩, by simp only [numOf]; omega⟩
          repeat (first | exact Same.hv _ _ _ | refine Same.up (by simp) ?_)
  · obtain rfl : k = l.length := by omega
    rw [List.take_length] at hs4 ha4
    have hrg := cnt_range0 l
    have hlen : (cntM z31 l).length = 31 := by rw [cntM_len]; rfl
    generalize cntM z31 l = s at hs4 ha4 hrg hlen
    have hp4 := hs4.lt
    have hq4 := ha4.lt
    have hm4s := hm4.size
    refine loop_p (7 :: 8 :: List.range' 92 38) (fun e w' => ByteJ s w4 (e 7) (e 92) w') (fun e _ => 31 - (numOf (e 92)).toNat) ?_ ?_
    · exact ⟨0, none, 0, by simp only [hv_apply, up_apply, upO_some, upO_none, init, List.mem_cons, List.mem_range'_1, true_and, and_true, and_false, false_and, Nat.reduceLT, Nat.reduceLeDiff, Nat.reduceAdd, true_or, or_true, if_true, if_false, ↓reduceIte, Nat.reduceEqDiff, false_or, or_false, List.not_mem_nil, List.getElem?_cons_zero, List.getElem?_cons_succ, Option.getD_some] <;> rfl, by omega, by simp only [hv_apply, up_apply, upO_some, upO_none, init, List.mem_cons, List.mem_range'_1, true_and, and_true, and_false, false_and, Nat.reduceLT, Nat.reduceLeDiff, Nat.reduceAdd, true_or, or_true, if_true, if_false, ↓reduceIte, Nat.reduceEqDiff, false_or, or_false, List.not_mem_nil, List.getElem?_cons_zero, List.getElem?_cons_succ, Option.getD_some] <;> rfl, Own.nil _ _ _ _, More.refl _⟩
    rintro v w5 ⟨k, A5, c5, h92, hk, h7, ho5, hm5⟩
    simp only [hv_apply, up_apply, upO_some, upO_none, init, List.mem_cons, List.mem_range'_1, true_and, and_true, and_false, false_and, Nat.reduceLT, Nat.reduceLeDiff, Nat.reduceAdd, true_or, or_true, if_true, if_false, ↓reduceIte, Nat.reduceEqDiff, false_or, or_false, List.not_mem_nil, List.getElem?_cons_zero, List.getElem?_cons_succ, Option.getD_some] at h92 h7
    have ek : IntKind.i64.wrap ((k : Int) + 1) = ((k + 1 : Nat) : Int) := w64 (by omega) (by omega)
    have g0 : (0 : Int) ≤ (k : Int) := by omega
    simp (config := {maxSteps := 1000000}) only [↓zvD, zvU, ↓up_apply, ↓hv_apply, ↓upO_some, ↓upO_none, ↓ev_tmp, ↓ev_const, ↓ev_func, ↓ev_global, init, Nat.reduceEqDiff, Nat.reduceAdd, Nat.reduceMul, Nat.reduceSub, ↓reduceIte, Int.reduceEq, Int.reduceNe, Nat.reduceLeDiff, one, Value.cells, Int.reduceLE, Int.reduceLT, Int.reduceToNat, add_mk, reduceCtorEq, List.mem_range'_1, true_and, and_true, and_false, false_and, Nat.reduceLT, Nat.reduceLeDiff, tyF, h92, h7]
    refine ⟨fun h9 => ?_, fun h9 => ?_⟩
    · have hk31 : k < 31 := by omega
      have cq : w5.cell? ⟨q, k, none⟩ = some (.int .i64 (s.getD k 0)) := by rw [(ha4.more hm5).cell]; exact ints_at (by omega)
      have hx : 0 ≤ s.getD k 0 ∧ s.getD k 0 ≤ 4611686018427387904 := by
        rw [List.getD_eq_getElem?_getD, List.getElem?_eq_getElem (by omega)]
        exact hrg _ (List.getElem_mem _)
      have eu : IntKind.u64.wrap (s.getD k 0) = s.getD k 0 := wu64 hx.1 (by omega)
      simp (config := {maxSteps := 1000000}) only [↓zvD, zvU, ↓up_apply, ↓hv_apply, ↓upO_some, ↓upO_none, ↓ev_tmp, ↓ev_const, ↓ev_func, ↓ev_global, init, Nat.reduceEqDiff, Nat.reduceAdd, Nat.reduceMul, Nat.reduceSub, ↓reduceIte, Int.reduceEq, Int.reduceNe, Nat.reduceLeDiff, one, Value.cells, Int.reduceLE, Int.reduceLT, Int.reduceToNat, add_mk, reduceCtorEq, List.mem_range'_1, true_and, and_true, and_false, false_and, Nat.reduceLT, Nat.reduceLeDiff, tyF, h92, h7, g0, h9, cq, eu, Int.toNat_natCast]
      refine call_ok Try.call41 (ref_number w5 _ 8 hx.1 (by omega)) ?_
      rintro _ w6 ⟨A6, c6, rfl, ho6, hm6⟩
      have e8 := numB_len (s.getD k 0) 8
      have el := encM_len (s.take k)
      have etl : (s.take k).length = k := by rw [List.length_take]; omega
      rw [e8] at ho6
      rw [e8]
      simp (config := {maxSteps := 1000000}) only [↓zvD, zvU, ↓up_apply, ↓hv_apply, ↓upO_some, ↓upO_none, ↓ev_tmp, ↓ev_const, ↓ev_func, ↓ev_global, init, Nat.reduceEqDiff, Nat.reduceAdd, Nat.reduceMul, Nat.reduceSub, ↓reduceIte, Int.reduceEq, Int.reduceNe, Nat.reduceLeDiff, one, Value.cells, Int.reduceLE, Int.reduceLT, Int.reduceToNat, add_mk, reduceCtorEq, List.mem_range'_1, true_and, and_true, and_false, false_and, Nat.reduceLT, Nat.reduceLeDiff, tyF, h92, h7]
      have hs5 := hm5.size
      have hs6 := hm6.size
      refine app_own (m := 8) Try.underlying22 byteE rfl (by omega) (ho5.more hm6) ho6.cs (by rw [List.length_map, e8]) (byteV_one _) (by simp only [maxLen]; omega) (by omega) (by omega) ?_
      intro A7 c7 w7 ho7 hg7 _
      have hm7 : More w4 w7 := grown_below (ho5.more hm6) (hm5.trans hm6) (by omega) hg7
      have est : encM (s.take (k + 1)) = encM (s.take k) ++ numB (s.getD k 0) 8 := by rw [encM_step s (by omega), count_id hx]
      have esl : (encM (s.take k)).length + 8 = (encM (s.take (k + 1))).length := by rw [est, List.length_append, e8]
      rw [← List.map_append, ← est, esl] at ho7
      rw [esl]
      have cq7 : w7.cell? ⟨q, k, none⟩ = some (.int .i64 (s.getD k 0)) := by rw [(ha4.more hm7).cell]; exact ints_at (by omega)
      have cp7 : w7.cell? ⟨p, k, none⟩ = some (.int .i64 (s.getD k 0)) := by rw [(hs4.more hm7).cell]; exact ints_at (by omega)
      have fin : ∀ w8, More w7 w8 → ByteJ s w4 (.slice A7 (encM (s.take (k + 1))).length c7) (.int .i64 ((k + 1 : Nat) : Int)) w8 := fun w8 h8 =>
        ⟨k + 1, A7, c7, rfl, by omega, rfl, ho7.more h8, More.trans hm7 h8⟩
      simp (config := {maxSteps := 1000000}) only [↓zvD, zvU, ↓up_apply, ↓hv_apply, ↓upO_some, ↓upO_none, ↓ev_tmp, ↓ev_const, ↓ev_func, ↓ev_global, init, Nat.reduceEqDiff, Nat.reduceAdd, Nat.reduceMul, Nat.reduceSub, ↓reduceIte, Int.reduceEq, Int.reduceNe, Nat.reduceLeDiff, one, Value.cells, Int.reduceLE, Int.reduceLT, Int.reduceToNat, add_mk, reduceCtorEq, List.mem_range'_1, true_and, and_true, and_false, false_and, Nat.reduceLT, Nat.reduceLeDiff, tyF, h92, h7]
      refine draw_name fun K hK => ?_
      refine draw_calm mixed (by kernel_rfl) ?_
      rcases Nat.lt_or_ge k 15 with h15 | h15
      · have g15 : (k : Int) < 15 := by omega
        have g15' : ¬ (15 : Int) ≤ (k : Int) := by omega
        simp (config := {maxSteps := 1000000}) only [↓zvD, zvU, ↓zqD, ↓up_apply, ↓hv_apply, ↓upO_some, ↓upO_none, ↓ev_tmp, ↓ev_const, ↓ev_func, ↓ev_global, init, Nat.reduceEqDiff, Nat.reduceAdd, Nat.reduceMul, Nat.reduceSub, ↓reduceIte, Int.reduceEq, Int.reduceNe, Nat.reduceLeDiff, one, Value.cells, Int.reduceLE, Int.reduceLT, Int.reduceToNat, add_mk, reduceCtorEq, List.mem_range'_1, true_and, and_true, and_false, false_and, Nat.reduceLT, Nat.reduceLeDiff, tyF, h92, h7, g0, h9, g15, g15', cq7, cp7, Int.toNat_natCast, Nat.zero_add]
        intro w8 hm8
        refine hK _ _ ?_
        clear hK K
        simp (config := {maxSteps := 1000000}) only [↓zvD, zvU, ↓up_apply, ↓hv_apply, ↓upO_some, ↓upO_none, ↓ev_tmp, ↓ev_const, ↓ev_func, ↓ev_global, init, Nat.reduceEqDiff, Nat.reduceAdd, Nat.reduceMul, Nat.reduceSub, ↓reduceIte, Int.reduceEq, Int.reduceNe, Nat.reduceLeDiff, one, Value.cells, Int.reduceLE, Int.reduceLT, Int.reduceToNat, add_mk, reduceCtorEq, List.mem_range'_1, true_and, and_true, and_false, false_and, Nat.reduceLT, Nat.reduceLeDiff, tyF, h92, ek]
        refine ⟨⟨?_, fin w8 hm8⟩, by simp only [numOf]; omega⟩
        repeat (first | exact Same.hv _ _ _ | refine Same.up (by simp) ?_)
      · have g15 : ¬ (k : Int) < 15 := by omega
        have g15' : (15 : Int) ≤ (k : Int) := by omega
        have e15 : IntKind.i64.wrap ((k : Int) - 15) = ((k - 15 : Nat) : Int) := by rw [show (k : Int) - 15 = ((k - 15 : Nat) : Int) by omega]; exact w64 (by omega) (by omega)
        have g1 : (0 : Int) ≤ ((k - 15 : Nat) : Int) := by omega
        have g2 : ((k - 15 : Nat) : Int) < 16 := by omega
        have e16 : 15 + (k - 15) = k := by omega
        simp (config := {maxSteps := 1000000}) only [↓zvD, zvU, ↓zqD, ↓up_apply, ↓hv_apply, ↓upO_some, ↓upO_none, ↓ev_tmp, ↓ev_const, ↓ev_func, ↓ev_global, init, Nat.reduceEqDiff, Nat.reduceAdd, Nat.reduceMul, Nat.reduceSub, ↓reduceIte, Int.reduceEq, Int.reduceNe, Nat.reduceLeDiff, one, Value.cells, Int.reduceLE, Int.reduceLT, Int.reduceToNat, add_mk, reduceCtorEq, List.mem_range'_1, true_and, and_true, and_false, false_and, Nat.reduceLT, Nat.reduceLeDiff, tyF, h92, h7, g0, h9, g15, g15', e15, g1, g2, e16, cq7, cp7, Int.toNat_natCast, Nat.zero_add]
        intro w8 hm8
        refine hK _ _ ?_
        clear hK K
        simp (config := {maxSteps := 1000000}) only [↓zvD, zvU, ↓up_apply, ↓hv_apply, ↓upO_some, ↓upO_none, ↓ev_tmp, ↓ev_const, ↓ev_func, ↓ev_global, init, Nat.reduceEqDiff, Nat.reduceAdd, Nat.reduceMul, Nat.reduceSub, ↓reduceIte, Int.reduceEq, Int.reduceNe, Nat.reduceLeDiff, one, Value.cells, Int.reduceLE, Int.reduceLT, Int.reduceToNat, add_mk, reduceCtorEq, List.mem_range'_1, true_and, and_true, and_false, false_and, Nat.reduceLT, Nat.reduceLeDiff, tyF, h92, ek]
        refine ⟨⟨?_, fin w8 hm8⟩, by simp only [numOf]; omega⟩
        repeat (first | exact Same.hv _ _ _ | refine Same.up (by simp) ?_)
    · obtain rfl : k = 31 := by omega
      rw [List.take_of_length_le (by omega)] at h7 ho5 ⊢
      have el := encM_len s
      refine call_ok Try.call35 (stats_decode w5 A5 _ c5 ho5.cs (by omega)) ?_
      rintro _ w6 ⟨rfl, hm6⟩
      rw [decM_encM hlen, show s.map countM = s from (List.map_congr_left (g := id) (fun x hx => count_id (hrg x hx))).trans (List.map_id s)]
      simp (config := {maxSteps := 1000000}) only [↓zvD, zvU, ↓up_apply, ↓hv_apply, ↓upO_some, ↓upO_none, ↓ev_tmp, ↓ev_const, ↓ev_func, ↓ev_global, init, Nat.reduceEqDiff, Nat.reduceAdd, Nat.reduceMul, Nat.reduceSub, ↓reduceIte, Int.reduceEq, Int.reduceNe, Nat.reduceLeDiff, one, Value.cells, Int.reduceLE, Int.reduceLT, Int.reduceToNat, add_mk, reduceCtorEq, List.mem_range'_1, true_and, and_true, and_false, false_and, Nat.reduceLT, Nat.reduceLeDiff, tyF, zerStats]
      have hm7 := more_alloc w6 (.cells (ints z31).toArray 65)
      have hb7 := Blk.new w6 65 (ints z31).toArray
      generalize w6.alloc (.cells (ints z31).toArray 65) = w7 at hm7 hb7 ⊢
      rw [List.toList_toArray] at hb7
      refine st_all hb7 (by rw [List.size_toArray, ints_len, hlen]) rfl (by intro u hu; exact ints_one _ u (by simpa using hu)) fun w8 k1 k2 => ?_
      rw [List.toList_toArray] at k2
      have hm8 : More w4 w8 := k1.below (More.trans (More.trans hm5 hm6) hm7) (More.trans hm5 hm6).size
      have h58 : More w5 w8 := k1.below (More.trans hm6 hm7) hm6.size
      have hsv := (hs4.more hm8).all_eq 31 (by rw [ints_len, hlen])
      have hdv := k2.all_eq 31 (by rw [ints_len, hlen])
      have he := stat_eq hlen hlen w
      have hB8 := ho5.cs.more h58
      have rs := readstr_eq (B := w8.heap.size) Try.underlying22 Try.underlying5 Try.underlying9 hB8 c5 (Nat.le_refl _)
      refine draw_name fun K hK => ?_
      refine draw_seen 13 [[], [0], [0, 1], [], [3], [0, 1, 2, 3, 4], [0, 1, 2, 3, 4, 5], [0, 1, 2, 3, 4, 5, 6], [0, 1, 2, 3, 4, 5, 6, 7], [0, 1, 2, 3, 4, 5, 6, 7, 8], [0, 1, 2, 3, 4, 5, 6, 7, 8, 9], [0, 1, 2, 3, 4, 5, 6, 7, 8, 9, 10], [0, 1, 2, 3, 4, 5, 6, 7, 8, 9, 10], [0, 1, 2, 3, 4, 5, 6, 7, 8, 9, 10, 11, 12], [0, 1, 2, 3, 4, 5, 6, 7, 8, 9, 10, 11, 12, 13], [0, 1, 2, 3, 4, 5, 6, 7, 8, 9, 10, 11, 12, 13, 14]] (RV.look [(1, RV.BsF (encM s)), (2, RV.IsV (.string (bstr (encM s))))]) mixed (by kernel_rfl) (by kernel_rfl) (look_keeps _ (by simp [keepsV, keepsB])) ?_
      simp (config := {maxSteps := 1000000}) only [↓zvD, zvU, ↓zqD, ↓up_apply, ↓hv_apply, ↓upO_some, ↓upO_none, ↓ev_tmp, ↓ev_const, ↓ev_func, ↓ev_global, init, Nat.reduceEqDiff, Nat.reduceAdd, Nat.reduceMul, Nat.reduceSub, ↓reduceIte, Int.reduceEq, Int.reduceNe, Nat.reduceLeDiff, one, Value.cells, Int.reduceLE, Int.reduceLT, Int.reduceToNat, add_mk, reduceCtorEq, List.mem_range'_1, true_and, and_true, and_false, false_and, Nat.reduceLT, Nat.reduceLeDiff, tyF, h7, hsv, hdv, rs, he]
      refine ⟨fun w9 hm9 => call_ok Try.call37 (stats_encode w9 s hlen) ?_, ?_⟩
      · rintro _ w10 ⟨A7, c7, rfl, ho7, hm7⟩
        simp (config := {maxSteps := 1000000}) only [↓zvD, zvU, ↓zqD, ↓up_apply, ↓hv_apply, ↓upO_some, ↓upO_none, ↓ev_tmp, ↓ev_const, ↓ev_func, ↓ev_global, init, Nat.reduceEqDiff, Nat.reduceAdd, Nat.reduceMul, Nat.reduceSub, ↓reduceIte, Int.reduceEq, Int.reduceNe, Nat.reduceLeDiff, one, Value.cells, Int.reduceLE, Int.reduceLT, Int.reduceToNat, add_mk, reduceCtorEq, List.mem_range'_1, true_and, and_true, and_false, false_and, Nat.reduceLT, Nat.reduceLeDiff]
        exact ⟨hm7, A7, c7, rfl, ho7.cs⟩
      rintro _ ⟨w9, hm9, A9, c9, rfl, hA9⟩
      simp (config := {maxSteps := 1000000}) only [↓zvD, zvU, ↓zqD, ↓up_apply, ↓hv_apply, ↓upO_some, ↓upO_none, ↓ev_tmp, ↓ev_const, ↓ev_func, ↓ev_global, init, Nat.reduceEqDiff, Nat.reduceAdd, Nat.reduceMul, Nat.reduceSub, ↓reduceIte, Int.reduceEq, Int.reduceNe, Nat.reduceLeDiff, one, Value.cells, Int.reduceLE, Int.reduceLT, Int.reduceToNat, add_mk, reduceCtorEq, List.mem_range'_1, true_and, and_true, and_false, false_and, Nat.reduceLT, Nat.reduceLeDiff, tyF, h7, hsv, hdv, rs, he]
      refine ⟨fun w10 hm10 hh => ?_, ?_⟩
      · obtain ⟨A7, c7, e7, hA7⟩ := hh
        cases e7
        refine conv_str Try.underlying22 Try.underlying5 Try.underlying9 hA7 ?_
        simp (config := {maxSteps := 1000000}) only [↓zvD, zvU, ↓zqD, ↓up_apply, ↓hv_apply, ↓upO_some, ↓upO_none, ↓ev_tmp, ↓ev_const, ↓ev_func, ↓ev_global, init, Nat.reduceEqDiff, Nat.reduceAdd, Nat.reduceMul, Nat.reduceSub, ↓reduceIte, Int.reduceEq, Int.reduceNe, Nat.reduceLeDiff, one, Value.cells, Int.reduceLE, Int.reduceLT, Int.reduceToNat, add_mk, reduceCtorEq, List.mem_range'_1, true_and, and_true, and_false, false_and, Nat.reduceLT, Nat.reduceLeDiff]
        exact ⟨More.refl _, rfl⟩
      rintro _ ⟨w10, hm10, _, rfl⟩
      simp (config := {maxSteps := 1000000}) only [↓zvD, zvU, ↓zqD, ↓up_apply, ↓hv_apply, ↓upO_some, ↓upO_none, ↓ev_tmp, ↓ev_const, ↓ev_func, ↓ev_global, init, Nat.reduceEqDiff, Nat.reduceAdd, Nat.reduceMul, Nat.reduceSub, ↓reduceIte, Int.reduceEq, Int.reduceNe, Nat.reduceLeDiff, one, Value.cells, Int.reduceLE, Int.reduceLT, Int.reduceToNat, add_mk, reduceCtorEq, List.mem_range'_1, true_and, and_true, and_false, false_and, Nat.reduceLT, Nat.reduceLeDiff, tyF, h7, hsv, hdv, rs, he, beq_self_eq_true]
      intro w11 hm11 _
      refine hK _ _ ?_
      simp (config := {maxSteps := 1000000}) only [↓zvD, zvU, ↓up_apply, ↓hv_apply, ↓upO_some, ↓upO_none, ↓ev_tmp, ↓ev_const, ↓ev_func, ↓ev_global, init, Nat.reduceEqDiff, Nat.reduceAdd, Nat.reduceMul, Nat.reduceSub, ↓reduceIte, Int.reduceEq, Int.reduceNe, Nat.reduceLeDiff, one, Value.cells, Int.reduceLE, Int.reduceLT, Int.reduceToNat, add_mk, reduceCtorEq, List.mem_range'_1, true_and, and_true, and_false, false_and, Nat.reduceLT, Nat.reduceLeDiff, tyF]
      exact (More.trans hm4 hm8).trans hm11
end Go.Proofs.Ytgbhgjghlnknjaa
