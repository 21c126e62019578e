/-
  Layer 29: what is counted, in any order; StatsOrder, StatsNil.
-/
import Derived.Test.YtgbhgjghlnknjaaStatsD
import Derived.Test.YtgbhgjghlnknjaaRefA
import Derived.Test.YtgbhgjghlnknjaaRw
namespace Go.Proofs.Ytgbhgjghlnknjaa
open Go Go.RowKit Go.Proofs.RV
set_option linter.unusedSimpArgs false
set_option linter.unusedVariables false
set_option maxRecDepth 10000
set_option maxHeartbeats 4000000

structure AddedM where
  because : Bool
  kind : Int
  n : Int
def AddedM.cells (a : AddedM) : List Value := [.bool a.because, .int .i64 a.kind, .int .i64 a.n]
theorem AddedM.cells_len (a : AddedM) : a.cells.length = 3 := rfl
/-- one more is counted -/
def cnt1 (s : List Int) (a : AddedM) : List Int := if a.because = true then (if 0 ≤ a.kind ∧ a.kind < 16 then bump s (15 + a.kind.toNat) a.n else s) else (if 0 ≤ a.kind ∧ a.kind < 15 then bump s a.kind.toNat a.n else s)
theorem bump_len (s : List Int) (k : Nat) (n : Int) : (bump s k n).length = s.length := by simp [bump]
theorem cnt1_len (s : List Int) (a : AddedM) : (cnt1 s a).length = s.length := by
  unfold cnt1; split <;> split <;> simp [bump_len]
def cntM (s : List Int) (l : List AddedM) : List Int := l.foldl cnt1 s
theorem cntM_len (l : List AddedM) : ∀ s, (cntM s l).length = s.length := by
  induction l with
  | nil => intro s; rfl
  | cons a l ih => intro s; show (cntM (cnt1 s a) l).length = _; rw [ih, cnt1_len]
theorem cntM_step (s : List Int) (l : List AddedM) {k : Nat} {a : AddedM} (h : l[k]? = some a) : cntM s (l.take (k + 1)) = cnt1 (cntM s (l.take k)) a := by
  unfold cntM
  rw [List.take_add_one, h, Option.toList_some, List.foldl_append]
  rfl
/-- where it is counted -/
def AddedM.at_ (a : AddedM) : Option Nat := if a.because = true then (if 0 ≤ a.kind ∧ a.kind < 16 then some (15 + a.kind.toNat) else none) else (if 0 ≤ a.kind ∧ a.kind < 15 then some a.kind.toNat else none)
def putAt (s : List Int) (o : Option Nat) (n : Int) : List Int := match o with | some k => bump s k n | none => s
theorem cnt1_at (s : List Int) (a : AddedM) : cnt1 s a = putAt s a.at_ a.n := by
  unfold cnt1 AddedM.at_ putAt
  split <;> split <;> simp
theorem addM_comm3 (x m n : Int) : addM (addM x m) n = addM (addM x n) m := by
  unfold addM countM; omega
theorem bump_comm (s : List Int) (j k : Nat) (m n : Int) : bump (bump s j m) k n = bump (bump s k n) j m := by
  unfold bump
  by_cases h : j = k
  · subst h
    by_cases hj : j < s.length
    · simp [hj, addM_comm3]
    · have h1 : s.length ≤ j := by omega
      rw [List.set_eq_of_length_le (by simpa using h1), List.set_eq_of_length_le h1, List.set_eq_of_length_le h1, List.set_eq_of_length_le h1]
  · rw [List.set_comm _ _ h]
    simp only [List.getD_eq_getElem?_getD, List.getElem?_set_ne h, List.getElem?_set_ne (Ne.symm h)]
theorem cnt1_comm (s : List Int) (a b : AddedM) : cnt1 (cnt1 s a) b = cnt1 (cnt1 s b) a := by
  simp only [cnt1_at]
  generalize a.at_ = p
  generalize b.at_ = q
  cases p <;> cases q <;> simp only [putAt]
  exact bump_comm _ _ _ _ _
theorem cntM_swap (s : List Int) (l : List AddedM) (n : Nat) : cntM (cntM s (l.drop n)) (l.take n) = cntM s l := by
  have h : (l.drop n ++ l.take n).Perm l := by
    have := List.perm_append_comm (l₁ := l.drop n) (l₂ := l.take n)
    rwa [List.take_append_drop] at this
  unfold cntM
  rw [← List.foldl_append]
  exact h.foldl_eq' (fun x _ y _ z => cnt1_comm z x y) s

theorem law29_awake (w : World) : Ret Try.prog 33 #[] w fun v w' => v = .bool true ∧ More w w' := by
  refine ret_of Try.func33 rfl (by kernel_rfl) (Nat.le_of_ble_eq_true (by kernel_rfl)) ?_
  simp (config := {maxSteps := 1000000}) only [↓zvD, zvU, ↓up_apply, ↓hv_apply, ↓upO_some, ↓upO_none, ↓ev_tmp, ↓ev_const, ↓ev_func, ↓ev_global, init, Nat.reduceEqDiff, Nat.reduceAdd, Nat.reduceMul, Nat.reduceSub, ↓reduceIte, Int.reduceEq, Int.reduceNe, Nat.reduceLeDiff, one, Value.cells, Int.reduceLE, Int.reduceLT, Int.reduceToNat, add_mk, reduceCtorEq, List.mem_range'_1, true_and, and_true, and_false, false_and, Nat.reduceLT, Nat.reduceLeDiff, tyF, zerStats]
  have hm1 := more_alloc w (.cells (ints z31).toArray 65)
  have hb1 := Blk.new w 65 (ints z31).toArray
  generalize w.alloc (.cells (ints z31).toArray 65) = w1 at hm1 hb1 ⊢
  rw [List.toList_toArray] at hb1
  refine call_ok Try.call39 (stats_add w1 _ z31 4 5 rfl hb1) ?_
  rintro _ w2 ⟨rfl, hb2, hm2⟩
  rw [if_pos (by omega)] at hb2
  have hc : w2.cell? ⟨w.heap.size, 4, none⟩ = some (.int .i64 5) := by rw [hb2.cell]; rfl
  have hv := hb2.all_eq 31 rfl
  simp (config := {maxSteps := 1000000}) only [↓zvD, zvU, ↓up_apply, ↓hv_apply, ↓upO_some, ↓upO_none, ↓ev_tmp, ↓ev_const, ↓ev_func, ↓ev_global, init, Nat.reduceEqDiff, Nat.reduceAdd, Nat.reduceMul, Nat.reduceSub, ↓reduceIte, Int.reduceEq, Int.reduceNe, Nat.reduceLeDiff, one, Value.cells, Int.reduceLE, Int.reduceLT, Int.reduceToNat, add_mk, reduceCtorEq, List.mem_range'_1, true_and, and_true, and_false, false_and, Nat.reduceLT, Nat.reduceLeDiff, tyF, hc, hv]
  refine call_ok Try.call37 (stats_encode w2 _ rfl) ?_
  rintro _ w3 ⟨A, c, rfl, ho3, hm3⟩
  rw [encM_len]
  have e : (bump z31 4 5).length = 31 := rfl
  rw [e]
  simp (config := {maxSteps := 1000000}) only [↓zvD, zvU, ↓up_apply, ↓hv_apply, ↓upO_some, ↓upO_none, ↓ev_tmp, ↓ev_const, ↓ev_func, ↓ev_global, init, Nat.reduceEqDiff, Nat.reduceAdd, Nat.reduceMul, Nat.reduceSub, ↓reduceIte, Int.reduceEq, Int.reduceNe, Nat.reduceLeDiff, one, Value.cells, Int.reduceLE, Int.reduceLT, Int.reduceToNat, add_mk, reduceCtorEq, List.mem_range'_1, true_and, and_true, and_false, false_and, Nat.reduceLT, Nat.reduceLeDiff, tyF]
  exact (hm2.more hm1 fun k hk hq => by omega).trans hm3

def CntJ (w : World) (p : Nat) (s : List Int) (l : List AddedM) (v7 : Value) (w' : World) : Prop :=
  ∃ k : Nat, v7 = .int .i64 k ∧ k ≤ l.length ∧ Blk w' p 65 (ints (cntM s (l.take k))) ∧ Mod (fun k => k = p) w w'
theorem law29_count (w : World) (p : Nat) (s : List Int) (A : Option Addr) (l : List AddedM) (c : Nat) (hs : s.length = 31) (hb : Blk w p 65 (ints s)) (hA : Cs w A (l.flatMap AddedM.cells)) (hne : ∀ a, A = some a → 0 < l.length → a.block ≠ p) (hl : l.length ≤ 1000000) :
    Ret Try.prog 34 #[.pointer (some ⟨p, 0, none⟩), .slice A l.length c] w (StatR p (cntM s l) w) := by
  refine ret_of Try.func34 rfl (by kernel_rfl) (Nat.le_of_ble_eq_true (by kernel_rfl)) ?_
  simp (config := {maxSteps := 1000000}) only [↓zvD, zvU, ↓up_apply, ↓hv_apply, ↓upO_some, ↓upO_none, ↓ev_tmp, ↓ev_const, ↓ev_func, ↓ev_global, init, Nat.reduceEqDiff, Nat.reduceAdd, Nat.reduceMul, Nat.reduceSub, ↓reduceIte, Int.reduceEq, Int.reduceNe, Nat.reduceLeDiff, one, Value.cells, Int.reduceLE, Int.reduceLT, Int.reduceToNat, add_mk, reduceCtorEq, List.mem_range'_1, true_and, and_true, and_false, false_and, Nat.reduceLT, Nat.reduceLeDiff, tyF]
  refine loop_p [4, 7, 8, 9, 10, 11, 12, 13, 14, 15, 16, 17, 18, 19, 20, 21, 22, 23, 24, 25, 26, 27, 28, 29, 30, 31, 32, 33, 34, 35, 36, 37, 38, 39] (fun e w' => CntJ w p s l (e 7) w') (fun e _ => l.length - (numOf (e 7)).toNat) ?_ ?_
  · exact ⟨0, by simp only [hv_apply, up_apply, upO_some, upO_none, init, List.mem_cons, List.mem_range'_1, true_and, and_true, and_false, false_and, Nat.reduceLT, Nat.reduceLeDiff, Nat.reduceAdd, true_or, or_true, if_true, if_false, ↓reduceIte, Nat.reduceEqDiff, false_or, or_false, List.not_mem_nil, List.getElem?_cons_zero, List.getElem?_cons_succ, Option.getD_some] <;> rfl, by omega, hb, Mod.refl _ _⟩
  rintro v w1 ⟨k, h7, hk, hb1, hm1⟩
  simp only [hv_apply, up_apply, upO_some, upO_none, init, List.mem_cons, List.mem_range'_1, true_and, and_true, and_false, false_and, Nat.reduceLT, Nat.reduceLeDiff, Nat.reduceAdd, true_or, or_true, if_true, if_false, ↓reduceIte, Nat.reduceEqDiff, false_or, or_false, List.not_mem_nil, List.getElem?_cons_zero, List.getElem?_cons_succ, Option.getD_some] at h7
  have ek : IntKind.i64.wrap ((k : Int) + 1) = ((k + 1 : Nat) : Int) := w64 (by omega) (by omega)
  have g0 : (0 : Int) ≤ (k : Int) := by omega
  simp (config := {maxSteps := 1000000}) only [↓zvD, zvU, ↓up_apply, ↓hv_apply, ↓upO_some, ↓upO_none, ↓ev_tmp, ↓ev_const, ↓ev_func, ↓ev_global, init, Nat.reduceEqDiff, Nat.reduceAdd, Nat.reduceMul, Nat.reduceSub, ↓reduceIte, Int.reduceEq, Int.reduceNe, Nat.reduceLeDiff, one, Value.cells, Int.reduceLE, Int.reduceLT, Int.reduceToNat, add_mk, reduceCtorEq, List.mem_range'_1, true_and, and_true, and_false, false_and, Nat.reduceLT, Nat.reduceLeDiff, tyF, h7]
  refine ⟨fun h9 => ?_, fun h9 => ?_⟩
  · have hk1 : k < l.length := by omega
    obtain ⟨m, hm⟩ := row_nat l k hk1
    have hA1 := hm1.cs hA fun a ha => hne a ha (by omega)
    obtain ⟨a, rfl⟩ := hA1.some_of (by rw [row_len _ (fun m _ => AddedM.cells_len m)]; omega)
    have c0 : w1.cell? ((a.add (k * 3)).add 0) = some (.bool m.because) := hA1.elemA (fun m _ => AddedM.cells_len m) hm (j := 0) (by omega)
    have c1 : w1.cell? ((a.add (k * 3)).add 1) = some (.int .i64 m.kind) := hA1.elemA (fun m _ => AddedM.cells_len m) hm (j := 1) (by omega)
    have c2 : w1.cell? ((a.add (k * 3)).add 2) = some (.int .i64 m.n) := hA1.elemA (fun m _ => AddedM.cells_len m) hm (j := 2) (by omega)
    have hst := cntM_step s l hm
    have hlen : (cntM s (l.take k)).length = 31 := by rw [cntM_len, hs]
    simp (config := {maxSteps := 1000000}) only [↓zvD, zvU, ↓up_apply, ↓hv_apply, ↓upO_some, ↓upO_none, ↓ev_tmp, ↓ev_const, ↓ev_func, ↓ev_global, init, Nat.reduceEqDiff, Nat.reduceAdd, Nat.reduceMul, Nat.reduceSub, ↓reduceIte, Int.reduceEq, Int.reduceNe, Nat.reduceLeDiff, one, Value.cells, Int.reduceLE, Int.reduceLT, Int.reduceToNat, add_mk, reduceCtorEq, List.mem_range'_1, true_and, and_true, and_false, false_and, Nat.reduceLT, Nat.reduceLeDiff, tyF, h7, g0, h9, c0, Int.toNat_natCast]
    have fin : ∀ w2 w3, More w1 w2 → StatR p (cnt1 (cntM s (l.take k)) m) w2 (.tuple #[]) w3 → CntJ w p s l (.int .i64 ((k + 1 : Nat) : Int)) w3 := by
      rintro w2 w3 hm2 ⟨_, hb3, hm3⟩
      exact ⟨k + 1, rfl, by omega, by rw [hst]; exact hb3, (hm1.trans (Mod.of_more hm2)).trans hm3⟩
    refine ⟨fun hbec => ?_, fun hbec => ?_⟩
    · refine draw_seen 11 [[], [], [], [1, 2], [1, 2, 3], [1, 2, 3, 4], [], [], [6, 7], [6, 7, 8], [6, 7, 8, 9], [0, 1, 2, 3, 4, 5, 6, 7, 8, 9, 10]] (RV.look []) mixed (by kernel_rfl) (by kernel_rfl) (look_keeps _ (by simp)) ?_
      simp (config := {maxSteps := 1000000}) only [↓zvD, zvU, ↓zqD, ↓up_apply, ↓hv_apply, ↓upO_some, ↓upO_none, ↓ev_tmp, ↓ev_const, ↓ev_func, ↓ev_global, init, Nat.reduceEqDiff, Nat.reduceAdd, Nat.reduceMul, Nat.reduceSub, ↓reduceIte, Int.reduceEq, Int.reduceNe, Nat.reduceLeDiff, one, Value.cells, Int.reduceLE, Int.reduceLT, Int.reduceToNat, add_mk, reduceCtorEq, List.mem_range'_1, true_and, and_true, and_false, false_and, Nat.reduceLT, Nat.reduceLeDiff, tyF, h7, g0, h9, c1, c2, Int.toNat_natCast]
      intro w2 hm2
      refine call_ok Try.call38 (stats_because w2 p _ m.kind m.n hlen (hb1.more hm2)) ?_
      rintro _ w3 ⟨rfl, h3⟩
      have hx := fin w2 w3 hm2 (by unfold cnt1; rw [if_pos hbec]; exact ⟨rfl, h3⟩)
      simp (config := {maxSteps := 1000000}) only [↓zvD, zvU, ↓up_apply, ↓hv_apply, ↓upO_some, ↓upO_none, ↓ev_tmp, ↓ev_const, ↓ev_func, ↓ev_global, init, Nat.reduceEqDiff, Nat.reduceAdd, Nat.reduceMul, Nat.reduceSub, ↓reduceIte, Int.reduceEq, Int.reduceNe, Nat.reduceLeDiff, one, Value.cells, Int.reduceLE, Int.reduceLT, Int.reduceToNat, add_mk, reduceCtorEq, List.mem_range'_1, true_and, and_true, and_false, false_and, Nat.reduceLT, Nat.reduceLeDiff, tyF, h7, ek, p_nil]
      refine ⟨⟨?_, hx⟩, by simp only [numOf]; omega⟩
      repeat (first | exact Same.hv _ _ _ | refine Same.up (by simp) ?_)
    · refine draw_seen 11 [[], [], [], [1, 2], [1, 2, 3], [1, 2, 3, 4], [], [], [6, 7], [6, 7, 8], [6, 7, 8, 9], [0, 1, 2, 3, 4, 5, 6, 7, 8, 9, 10]] (RV.look []) mixed (by kernel_rfl) (by kernel_rfl) (look_keeps _ (by simp)) ?_
      simp (config := {maxSteps := 1000000}) only [↓zvD, zvU, ↓zqD, ↓up_apply, ↓hv_apply, ↓upO_some, ↓upO_none, ↓ev_tmp, ↓ev_const, ↓ev_func, ↓ev_global, init, Nat.reduceEqDiff, Nat.reduceAdd, Nat.reduceMul, Nat.reduceSub, ↓reduceIte, Int.reduceEq, Int.reduceNe, Nat.reduceLeDiff, one, Value.cells, Int.reduceLE, Int.reduceLT, Int.reduceToNat, add_mk, reduceCtorEq, List.mem_range'_1, true_and, and_true, and_false, false_and, Nat.reduceLT, Nat.reduceLeDiff, tyF, h7, g0, h9, c1, c2, Int.toNat_natCast]
      intro w2 hm2
      refine call_ok Try.call39 (stats_add w2 p _ m.kind m.n hlen (hb1.more hm2)) ?_
      rintro _ w3 ⟨rfl, h3⟩
      have hx := fin w2 w3 hm2 (by unfold cnt1; rw [if_neg (by rw [hbec]; simp)]; exact ⟨rfl, h3⟩)
      simp (config := {maxSteps := 1000000}) only [↓zvD, zvU, ↓up_apply, ↓hv_apply, ↓upO_some, ↓upO_none, ↓ev_tmp, ↓ev_const, ↓ev_func, ↓ev_global, init, Nat.reduceEqDiff, Nat.reduceAdd, Nat.reduceMul, Nat.reduceSub, ↓reduceIte, Int.reduceEq, Int.reduceNe, Nat.reduceLeDiff, one, Value.cells, Int.reduceLE, Int.reduceLT, Int.reduceToNat, add_mk, reduceCtorEq, List.mem_range'_1, true_and, and_true, and_false, false_and, Nat.reduceLT, Nat.reduceLeDiff, tyF, h7, ek, p_nil]
      refine ⟨⟨?_, hx⟩, by simp only [numOf]; omega⟩
      repeat (first | exact Same.hv _ _ _ | refine Same.up (by simp) ?_)
  · obtain rfl : k = l.length := by omega
    rw [List.take_length] at hb1
    exact ⟨rfl, hb1, hm1⟩
end Go.Proofs.Ytgbhgjghlnknjaa
