/-
  Layer 8: what ether.Parse and its reference come to.
-/
import Derived.Test.YtahcaplhdgphcaaGreatCurMore
import Derived.Test.YtahcaplhdgphcaaGreatNetM
import Derived.Test.YtahcaplhdgphcaaGreatEq
namespace Go.Proofs.YtahcaplhdgphcaaGreat
open Go Go.RowKit Go.Proofs.RV
set_option linter.unusedSimpArgs false
set_option linter.unusedVariables false
set_option maxRecDepth 10000
set_option maxHeartbeats 2000000

def isTag (t : Int) : Bool := decide (t = 33024) || decide (t = 34984)
/-- what a frame carries, with so many more tags allowed, from a place on -/
def ethGo (l : List UInt8) : Nat → Nat → Bool × Int × Int
  | r, at_ => if l.length < at_ + 2 then (false, 0, 1) else
    if isTag (two l at_) = true then (match r with | 0 => (false, 0, 6) | r + 1 => ethGo l r (at_ + 4)) else
    if two l at_ ≠ 2048 ∧ two l at_ ≠ 34525 then (false, 0, 2) else (decide (two l at_ = 34525), ((at_ + 2 : Nat) : Int), 0)
def etherM (l : List UInt8) : Bool × Int × Int := ethGo l 2 12
def LinkF (x : Bool × Int × Int) : List Value := [.bool x.1, .int .i64 x.2.1]
theorem linkFields (f : Field) (h : f ∈ (#[{ name := "V6", type := 4, offset := 0, embedded := false, tag := "", pkgPath := "", byteOffset := 0 }, { name := "At", type := 3, offset := 1, embedded := false, tag := "", pkgPath := "", byteOffset := 8 }] : Array Field)) : Tryz.prog.cellsOf f.type ≠ 0 := by
  simp only [List.mem_toArray, List.mem_cons, List.not_mem_nil, or_false] at h
  rcases h with rfl | rfl <;> simp [cells3, cells4]
theorem zerLink : zer Tryz.prog 122 = some (.agg #[.bool false, .int .i64 0]) := zer122
theorem link_build0 (w0 : World) (K : Value → Prop) : pureP Tryz.prog (Instr.build 122 #[]) K = K (.agg #[.bool false, .int .i64 0]) :=
  build0_eq Tryz.underlying122 zerLink linkFields w0 K
theorem link_build (b : Bool) (x : Int) (w0 : World) (K : Value → Prop) : pureP Tryz.prog (Instr.build 122 #[(0, .bool b), (1, .int .i64 x)]) K = K (.agg #[.bool b, .int .i64 x]) :=
  build_eq (out := [.bool b, .int .i64 x]) Tryz.underlying122 zerLink linkFields (by
    simp only [laid, List.getElem?_toArray, List.getElem?_cons_zero, List.getElem?_cons_succ, Option.map_some, Option.bind_some, cells3, cells4]
    rfl) w0 K
theorem link_flat (b : Bool) (x : Int) : Flat Tryz.prog 2 122 [.bool b, .int .i64 x] :=
  flat_struct Tryz.underlying122 (by kernel_rfl) ⟨by decide, rfl, [.bool b], _, rfl, cells4.symm, flat_bool Tryz.underlying4 b, by decide, rfl, [.int .i64 x], [], rfl, cells3.symm, flat_int Tryz.underlying3 x, rfl⟩
theorem be2 {l : List UInt8} (k : Nat) (h : k + 2 ≤ l.length) : be ((l.drop k).take 2) = two l k := by
  have hl : 2 ≤ (l.drop k).length := by rw [List.length_drop]; omega
  rw [be_step (l := l.drop k) (k := 1) (by omega), be_step (l := l.drop k) (k := 0) (by omega)]
  simp [be, two, bt_drop]
/-- a round of ether.Parse's loop -/
def EthJ (l : List UInt8) (w : World) (L q : Nat) (F : Nat → Prop) (v5 v6 : Value) (w' : World) : Prop :=
  ∃ (n : Nat) (t : Int) (s : InM), v5 = .int .u16 t ∧ v6 = .int .i64 n ∧ n ≤ 2 ∧ ethGo l (2 - n) (12 + 4 * n) = etherM l ∧ InW w' F q s ∧ s.rest.length ≤ l.length ∧ Blk w' L 122 [.bool false, .int .i64 0] ∧ More w w' ∧
    (s = ⟨l.drop (14 + 4 * n), false⟩ ∧ 14 + 4 * n ≤ l.length ∧ t = two l (12 + 4 * n) ∨ s.bad = true ∧ t = 0 ∧ etherM l = (false, 0, 1))
theorem ethGo_short {l : List UInt8} {r k : Nat} (h : l.length < k + 2) : ethGo l r k = (false, 0, 1) := by unfold ethGo; rw [if_pos h]
theorem ethGo_tag {l : List UInt8} {r k : Nat} (h : k + 2 ≤ l.length) (ht : isTag (two l k) = true) : ethGo l r k = (match r with | 0 => (false, 0, 6) | r + 1 => ethGo l r (k + 4)) := by
  conv => lhs; unfold ethGo
  rw [if_neg (by omega), if_pos ht]
theorem ethGo_end {l : List UInt8} {r k : Nat} (h : k + 2 ≤ l.length) (ht : isTag (two l k) = false) : ethGo l r k = if two l k ≠ 2048 ∧ two l k ≠ 34525 then (false, 0, 2) else (decide (two l k = 34525), ((k + 2 : Nat) : Int), 0) := by
  conv => lhs; unfold ethGo
  rw [if_neg (by omega), ht]
  rfl
/-- two bytes are taken -/
theorem take_two {l : List UInt8} {k : Nat} (h : k ≤ l.length) : (k + 2 ≤ l.length ∧ (InM.mk (l.drop k) false).take 2 = ((l.drop k).take 2, ⟨l.drop (k + 2), false⟩) ∧ be ((InM.mk (l.drop k) false).take 2).1 = two l k) ∨
    (l.length < k + 2 ∧ (InM.mk (l.drop k) false).take 2 = ([], ⟨l.drop k, true⟩)) := by
  rcases Nat.lt_or_ge l.length (k + 2) with h1 | h1
  · right
    exact ⟨h1, take2_short (by rw [List.length_drop]; omega)⟩
  · left
    have e := take2_ok (l := l.drop k) (by rw [List.length_drop]; omega)
    rw [List.drop_drop] at e
    exact ⟨h1, e, by rw [e]; exact be2 k h1⟩
def EthR (l : List UInt8) (w : World) (v : Value) (w' : World) : Prop := v = .tuple #[.agg #[.bool (etherM l).1, .int .i64 (etherM l).2.1], .int .i64 (etherM l).2.2] ∧ More w w'
theorem ether_parse (w : World) (A : Option Addr) (l : List UInt8) (c : Nat) (hA : Bs w A l) (hl : l.length ≤ 4000000) :
    Ret Tryz.prog 57 #[.slice A l.length c] w (EthR l w) := by
  refine ret_of Tryz.func57 rfl (by kernel_rfl) (Nat.le_of_ble_eq_true (by kernel_rfl)) ?_
  have hm1 := more_alloc w (.cells #[.bool false, .int .i64 0] 122)
  have hb1 := Blk.new w 122 #[.bool false, .int .i64 0]
  have s1 := size_alloc w (.cells #[.bool false, .int .i64 0] 122)
  simp (config := {maxSteps := 1000000, implicitDefEqProofs := false}) only [↓zvD, zvU, ↓up_apply, ↓hv_apply, ↓upO_some, ↓upO_none, ↓ev_tmp, ↓ev_const, ↓ev_func, ↓ev_global, init, Nat.reduceEqDiff, Nat.reduceAdd, Nat.reduceMul, Nat.reduceSub, ↓reduceIte, Int.reduceEq, Int.reduceNe, Nat.reduceLeDiff, one, Value.cells, Int.reduceLE, Int.reduceLT, Int.reduceToNat, add_mk, reduceCtorEq, List.mem_range'_1, true_and, and_true, and_false, false_and, Nat.reduceLT, Nat.reduceLeDiff, tyF, zerLink]
  generalize w.alloc (.cells #[.bool false, .int .i64 0] 122) = w1 at hm1 hb1 s1 ⊢
  refine call_ok Tryz.call78 (cur_new w1 A l c (hA.more hm1) hl) ?_
  rintro _ w2 ⟨q, rfl, hq, hI2, hm2⟩
  have hm12 := hm1.trans hm2
  have hb2 := hb1.more hm2
  have hq0 : w.heap.size ≤ q := by omega
  have hLq : w.heap.size ≠ q := by omega
  generalize (fun k => w1.heap.size ≤ k ∧ k < q) = F at hI2
  simp (config := {maxSteps := 1000000, implicitDefEqProofs := false}) only [↓zvD, zvU, ↓up_apply, ↓hv_apply, ↓upO_some, ↓upO_none, ↓ev_tmp, ↓ev_const, ↓ev_func, ↓ev_global, init, Nat.reduceEqDiff, Nat.reduceAdd, Nat.reduceMul, Nat.reduceSub, ↓reduceIte, Int.reduceEq, Int.reduceNe, Nat.reduceLeDiff, one, Value.cells, Int.reduceLE, Int.reduceLT, Int.reduceToNat, add_mk, reduceCtorEq, List.mem_range'_1, true_and, and_true, and_false, false_and, Nat.reduceLT, Nat.reduceLeDiff, tyF]
  refine call_ok Tryz.call115 (cur_raw w2 F q _ 12 hI2 hl) ?_
  rintro _ w3 ⟨A3, c3, rfl, ho3, hI3, hbut3⟩
  have hm3 := more_but hm12 hbut3 hq0
  have hb3 := hbut3.blk hb2 hLq
  simp (config := {maxSteps := 1000000, implicitDefEqProofs := false}) only [↓zvD, zvU, ↓up_apply, ↓hv_apply, ↓upO_some, ↓upO_none, ↓ev_tmp, ↓ev_const, ↓ev_func, ↓ev_global, init, Nat.reduceEqDiff, Nat.reduceAdd, Nat.reduceMul, Nat.reduceSub, ↓reduceIte, Int.reduceEq, Int.reduceNe, Nat.reduceLeDiff, one, Value.cells, Int.reduceLE, Int.reduceLT, Int.reduceToNat, add_mk, reduceCtorEq, List.mem_range'_1, true_and, and_true, and_false, false_and, Nat.reduceLT, Nat.reduceLeDiff, tyF]
  refine call_ok Tryz.call116 (cur_u16 w3 F q _ hI3 (Nat.le_trans (InM.take_rest _ _) hl)) ?_
  rintro _ w4 ⟨rfl, hI4, hbut4⟩
  have hm4 := more_but hm3 hbut4 hq0
  have hb4 := hbut4.blk hb3 hLq
  simp (config := {maxSteps := 1000000, implicitDefEqProofs := false}) only [↓zvD, zvU, ↓up_apply, ↓hv_apply, ↓upO_some, ↓upO_none, ↓ev_tmp, ↓ev_const, ↓ev_func, ↓ev_global, init, Nat.reduceEqDiff, Nat.reduceAdd, Nat.reduceMul, Nat.reduceSub, ↓reduceIte, Int.reduceEq, Int.reduceNe, Nat.reduceLeDiff, one, Value.cells, Int.reduceLE, Int.reduceLT, Int.reduceToNat, add_mk, reduceCtorEq, List.mem_range'_1, true_and, and_true, and_false, false_and, Nat.reduceLT, Nat.reduceLeDiff, tyF]
  -- what the two bytes are
  have first : EthJ l w w.heap.size q F (.int .u16 (be ((((InM.mk l false).take 12).2).take 2).1)) (.int .i64 0) w4 := by
    refine ⟨0, _, _, rfl, rfl, by omega, rfl, hI4, Nat.le_trans (InM.take_rest _ _) (InM.take_rest _ _), hb4, hm4, ?_⟩
    rcases Nat.lt_or_ge l.length 12 with h | h
    · right
      have e : (InM.mk l false).take 12 = ([], ⟨l, true⟩) := take_short (n := 12) h
      rw [e, take_badI rfl]
      exact ⟨rfl, rfl, ethGo_short (by omega)⟩
    · have e : (InM.mk l false).take 12 = (l.take 12, ⟨l.drop 12, false⟩) := take_ok (n := 12) h
      rw [e]
      rcases take_two (l := l) (k := 12) h with ⟨h1, h2, h3⟩ | ⟨h1, h2⟩
      · left
        rw [h3, h2]
        exact ⟨rfl, by omega, rfl⟩
      · right
        rw [h2]
        exact ⟨rfl, rfl, ethGo_short h1⟩
  generalize be ((((InM.mk l false).take 12).2).take 2).1 = t0 at first ⊢
  refine loop_p [5, 6, 13, 14, 15, 16, 17, 18, 19, 20, 21, 22, 23, 24, 25, 26, 27] (fun e w' => EthJ l w w.heap.size q F (e 5) (e 6) w') (fun e _ => 3 - (numOf (e 6)).toNat) ?_ ?_
  · simpa only [hv_apply, up_apply, upO_some, upO_none, init, List.mem_cons, List.mem_range'_1, true_and, and_true, and_false, false_and, Nat.reduceLT, Nat.reduceLeDiff, Nat.reduceAdd, true_or, or_true, if_true, if_false, ↓reduceIte, Nat.reduceEqDiff, false_or, or_false, List.not_mem_nil, List.getElem?_cons_zero, List.getElem?_cons_succ, Option.getD_some] using first
  rintro v w5 ⟨n, t, s, h5, h6, hn, hgo, hI5, hrest, hb5, hm5, hcase⟩
  simp only [hv_apply, up_apply, upO_some, upO_none, init, List.mem_cons, List.mem_range'_1, true_and, and_true, and_false, false_and, Nat.reduceLT, Nat.reduceLeDiff, Nat.reduceAdd, true_or, or_true, if_true, if_false, ↓reduceIte, Nat.reduceEqDiff, false_or, or_false, List.not_mem_nil, List.getElem?_cons_zero, List.getElem?_cons_succ, Option.getD_some] at h5 h6
  have out : ∀ w8 w9 x, More w w8 → Wr w.heap.size w8 w9 → etherM l = x → EthR l w (.tuple #[.agg #[.bool x.1, .int .i64 x.2.1], .int .i64 x.2.2]) w9 := by
    intro w8 w9 x hm hw hx
    subst hx
    exact ⟨rfl, hw.below hm (Nat.le_refl _)⟩
  rcases hcase with ⟨hs, h14, ht⟩ | ⟨hbad, rfl, hshort⟩
  rotate_left
  · simp (config := {maxSteps := 1000000, implicitDefEqProofs := false}) only [↓zvD, zvU, ↓up_apply, ↓hv_apply, ↓upO_some, ↓upO_none, ↓ev_tmp, ↓ev_const, ↓ev_func, ↓ev_global, init, Nat.reduceEqDiff, Nat.reduceAdd, Nat.reduceMul, Nat.reduceSub, ↓reduceIte, Int.reduceEq, Int.reduceNe, Nat.reduceLeDiff, one, Value.cells, Int.reduceLE, Int.reduceLT, Int.reduceToNat, add_mk, reduceCtorEq, List.mem_range'_1, true_and, and_true, and_false, false_and, Nat.reduceLT, Nat.reduceLeDiff, tyF, h5, h6]
    refine call_ok Tryz.call82 (cur_bad w5 F q s hI5) ?_
    rintro _ w6 ⟨rfl, rfl⟩
    rw [hbad]
    simp (config := {maxSteps := 1000000, implicitDefEqProofs := false}) only [↓zvD, zvU, ↓up_apply, ↓hv_apply, ↓upO_some, ↓upO_none, ↓ev_tmp, ↓ev_const, ↓ev_func, ↓ev_global, init, Nat.reduceEqDiff, Nat.reduceAdd, Nat.reduceMul, Nat.reduceSub, ↓reduceIte, Int.reduceEq, Int.reduceNe, Nat.reduceLeDiff, one, Value.cells, Int.reduceLE, Int.reduceLT, Int.reduceToNat, add_mk, reduceCtorEq, List.mem_range'_1, true_and, and_true, and_false, false_and, Nat.reduceLT, Nat.reduceLeDiff, tyF, link_build0 w]
    refine st_all hb5 rfl rfl (by intro u hu; simp at hu; rcases hu with rfl | rfl <;> rfl) fun w9 k1 k2 => ?_
    have r2 := k2.all_eq 2 rfl
    simp (config := {maxSteps := 1000000, implicitDefEqProofs := false}) only [↓zvD, zvU, ↓up_apply, ↓hv_apply, ↓upO_some, ↓upO_none, ↓ev_tmp, ↓ev_const, ↓ev_func, ↓ev_global, init, Nat.reduceEqDiff, Nat.reduceAdd, Nat.reduceMul, Nat.reduceSub, ↓reduceIte, Int.reduceEq, Int.reduceNe, Nat.reduceLeDiff, one, Value.cells, Int.reduceLE, Int.reduceLT, Int.reduceToNat, add_mk, reduceCtorEq, List.mem_range'_1, true_and, and_true, and_false, false_and, Nat.reduceLT, Nat.reduceLeDiff, tyF, r2]
    exact out _ _ _ hm5 k1 hshort
  have hcut : (t = 33024 ∨ t = 34984) ∨ (¬ t = 33024 ∧ ¬ t = 34984) := by omega
  rcases hcut with htag | ⟨hn1, hn2⟩
  · have htg : isTag (two l (12 + 4 * n)) = true := by rw [← ht]; unfold isTag; rcases htag with rfl | rfl <;> rfl
    have hgo2 := ethGo_tag (r := 2 - n) (show 12 + 4 * n + 2 ≤ l.length by omega) htg
    rw [hgo] at hgo2
    rcases Nat.lt_or_ge n 2 with hlt | hge
    · have hne : ¬ (n : Int) = 2 := by omega
      have ek : IntKind.i64.wrap ((n : Int) + 1) = ((n + 1 : Nat) : Int) := w64 (by omega) (by omega)
      have hgo3 : etherM l = ethGo l (2 - (n + 1)) (12 + 4 * (n + 1)) := by
        rw [hgo2, show 2 - n = (2 - (n + 1)) + 1 by omega]
        rfl
      subst hs
      have step : ∀ w6 w7, But q w5 w6 → But q w6 w7 → InW w7 F q (((InM.mk (l.drop (14 + 4 * n)) false).take 2).2.take 2).2 → EthJ l w w.heap.size q F (.int .u16 (be (((InM.mk (l.drop (14 + 4 * n)) false).take 2).2.take 2).1)) (.int .i64 ((n + 1 : Nat) : Int)) w7 := by
        intro w6 w7 hbut6 hbut7 hI7
        refine ⟨n + 1, _, _, rfl, rfl, by omega, hgo3.symm, hI7, Nat.le_trans (InM.take_rest _ _) (Nat.le_trans (InM.take_rest _ _) hrest), hbut7.blk (hbut6.blk hb5 hLq) hLq, more_but (more_but hm5 hbut6 hq0) hbut7 hq0, ?_⟩
        rcases take_two (l := l) (k := 14 + 4 * n) h14 with ⟨h1, h2, h3⟩ | ⟨h1, h2⟩
        · rw [h2]
          rcases take_two (l := l) (k := 14 + 4 * n + 2) h1 with ⟨h4, h7, h8⟩ | ⟨h4, h7⟩
          · left
            rw [h8, h7]
            exact ⟨by rw [show 14 + 4 * (n + 1) = 14 + 4 * n + 2 + 2 by omega], by omega, by rw [show 12 + 4 * (n + 1) = 14 + 4 * n + 2 by omega]⟩
          · right
            rw [h7]
            exact ⟨rfl, rfl, by rw [hgo3]; exact ethGo_short (by omega)⟩
        · right
          rw [h2, take_badI rfl]
          exact ⟨rfl, rfl, by rw [hgo3]; exact ethGo_short (by omega)⟩
      rcases htag with rfl | rfl
      · simp (config := {maxSteps := 1000000, implicitDefEqProofs := false}) only [↓zvD, zvU, ↓up_apply, ↓hv_apply, ↓upO_some, ↓upO_none, ↓ev_tmp, ↓ev_const, ↓ev_func, ↓ev_global, init, Nat.reduceEqDiff, Nat.reduceAdd, Nat.reduceMul, Nat.reduceSub, ↓reduceIte, Int.reduceEq, Int.reduceNe, Nat.reduceLeDiff, one, Value.cells, Int.reduceLE, Int.reduceLT, Int.reduceToNat, add_mk, reduceCtorEq, List.mem_range'_1, true_and, and_true, and_false, false_and, Nat.reduceLT, Nat.reduceLeDiff, tyF, h5, h6, hne]
        refine call_ok Tryz.call116 (cur_u16 w5 F q _ hI5 (by omega)) ?_
        rintro _ w6 ⟨rfl, hI6, hbut6⟩
        simp (config := {maxSteps := 1000000, implicitDefEqProofs := false}) only [↓zvD, zvU, ↓up_apply, ↓hv_apply, ↓upO_some, ↓upO_none, ↓ev_tmp, ↓ev_const, ↓ev_func, ↓ev_global, init, Nat.reduceEqDiff, Nat.reduceAdd, Nat.reduceMul, Nat.reduceSub, ↓reduceIte, Int.reduceEq, Int.reduceNe, Nat.reduceLeDiff, one, Value.cells, Int.reduceLE, Int.reduceLT, Int.reduceToNat, add_mk, reduceCtorEq, List.mem_range'_1, true_and, and_true, and_false, false_and, Nat.reduceLT, Nat.reduceLeDiff, tyF]
        refine call_ok Tryz.call116 (cur_u16 w6 F q _ hI6 (Nat.le_trans (InM.take_rest _ _) (by omega))) ?_
        rintro _ w7 ⟨rfl, hI7, hbut7⟩
        have hj := step w6 w7 hbut6 hbut7 hI7
        simp (config := {maxSteps := 1000000, implicitDefEqProofs := false}) only [↓zvD, zvU, ↓up_apply, ↓hv_apply, ↓upO_some, ↓upO_none, ↓ev_tmp, ↓ev_const, ↓ev_func, ↓ev_global, init, Nat.reduceEqDiff, Nat.reduceAdd, Nat.reduceMul, Nat.reduceSub, ↓reduceIte, Int.reduceEq, Int.reduceNe, Nat.reduceLeDiff, one, Value.cells, Int.reduceLE, Int.reduceLT, Int.reduceToNat, add_mk, reduceCtorEq, List.mem_range'_1, true_and, and_true, and_false, false_and, Nat.reduceLT, Nat.reduceLeDiff, tyF, h6, ek]
        refine ⟨⟨?_, hj⟩, by simp only [numOf]; omega⟩
        repeat (first | exact Same.hv _ _ _ | refine Same.up (by simp) ?_)
      · simp (config := {maxSteps := 1000000, implicitDefEqProofs := false}) only [↓zvD, zvU, ↓up_apply, ↓hv_apply, ↓upO_some, ↓upO_none, ↓ev_tmp, ↓ev_const, ↓ev_func, ↓ev_global, init, Nat.reduceEqDiff, Nat.reduceAdd, Nat.reduceMul, Nat.reduceSub, ↓reduceIte, Int.reduceEq, Int.reduceNe, Nat.reduceLeDiff, one, Value.cells, Int.reduceLE, Int.reduceLT, Int.reduceToNat, add_mk, reduceCtorEq, List.mem_range'_1, true_and, and_true, and_false, false_and, Nat.reduceLT, Nat.reduceLeDiff, tyF, h5, h6, hne]
        refine call_ok Tryz.call116 (cur_u16 w5 F q _ hI5 (by omega)) ?_
        rintro _ w6 ⟨rfl, hI6, hbut6⟩
        simp (config := {maxSteps := 1000000, implicitDefEqProofs := false}) only [↓zvD, zvU, ↓up_apply, ↓hv_apply, ↓upO_some, ↓upO_none, ↓ev_tmp, ↓ev_const, ↓ev_func, ↓ev_global, init, Nat.reduceEqDiff, Nat.reduceAdd, Nat.reduceMul, Nat.reduceSub, ↓reduceIte, Int.reduceEq, Int.reduceNe, Nat.reduceLeDiff, one, Value.cells, Int.reduceLE, Int.reduceLT, Int.reduceToNat, add_mk, reduceCtorEq, List.mem_range'_1, true_and, and_true, and_false, false_and, Nat.reduceLT, Nat.reduceLeDiff, tyF]
        refine call_ok Tryz.call116 (cur_u16 w6 F q _ hI6 (Nat.le_trans (InM.take_rest _ _) (by omega))) ?_
        rintro _ w7 ⟨rfl, hI7, hbut7⟩
        have hj := step w6 w7 hbut6 hbut7 hI7
        simp (config := {maxSteps := 1000000, implicitDefEqProofs := false}) only [↓zvD, zvU, ↓up_apply, ↓hv_apply, ↓upO_some, ↓upO_none, ↓ev_tmp, ↓ev_const, ↓ev_func, ↓ev_global, init, Nat.reduceEqDiff, Nat.reduceAdd, Nat.reduceMul, Nat.reduceSub, ↓reduceIte, Int.reduceEq, Int.reduceNe, Nat.reduceLeDiff, one, Value.cells, Int.reduceLE, Int.reduceLT, Int.reduceToNat, add_mk, reduceCtorEq, List.mem_range'_1, true_and, and_true, and_false, false_and, Nat.reduceLT, Nat.reduceLeDiff, tyF, h6, ek]
        refine ⟨⟨?_, hj⟩, by simp only [numOf]; omega⟩
        repeat (first | exact Same.hv _ _ _ | refine Same.up (by simp) ?_)
    · obtain rfl : n = 2 := by omega
      have h6m : etherM l = (false, 0, 6) := hgo2
      rcases htag with rfl | rfl
      · simp (config := {maxSteps := 1000000, implicitDefEqProofs := false}) only [↓zvD, zvU, ↓up_apply, ↓hv_apply, ↓upO_some, ↓upO_none, ↓ev_tmp, ↓ev_const, ↓ev_func, ↓ev_global, init, Nat.reduceEqDiff, Nat.reduceAdd, Nat.reduceMul, Nat.reduceSub, ↓reduceIte, Int.reduceEq, Int.reduceNe, Nat.reduceLeDiff, one, Value.cells, Int.reduceLE, Int.reduceLT, Int.reduceToNat, add_mk, reduceCtorEq, List.mem_range'_1, true_and, and_true, and_false, false_and, Nat.reduceLT, Nat.reduceLeDiff, tyF, h5, h6, link_build0 w]
        refine st_all hb5 rfl rfl (by intro u hu; simp at hu; rcases hu with rfl | rfl <;> rfl) fun w9 k1 k2 => ?_
        have r2 := k2.all_eq 2 rfl
        simp (config := {maxSteps := 1000000, implicitDefEqProofs := false}) only [↓zvD, zvU, ↓up_apply, ↓hv_apply, ↓upO_some, ↓upO_none, ↓ev_tmp, ↓ev_const, ↓ev_func, ↓ev_global, init, Nat.reduceEqDiff, Nat.reduceAdd, Nat.reduceMul, Nat.reduceSub, ↓reduceIte, Int.reduceEq, Int.reduceNe, Nat.reduceLeDiff, one, Value.cells, Int.reduceLE, Int.reduceLT, Int.reduceToNat, add_mk, reduceCtorEq, List.mem_range'_1, true_and, and_true, and_false, false_and, Nat.reduceLT, Nat.reduceLeDiff, tyF, r2]
        exact out _ _ _ hm5 k1 h6m
      · simp (config := {maxSteps := 1000000, implicitDefEqProofs := false}) only [↓zvD, zvU, ↓up_apply, ↓hv_apply, ↓upO_some, ↓upO_none, ↓ev_tmp, ↓ev_const, ↓ev_func, ↓ev_global, init, Nat.reduceEqDiff, Nat.reduceAdd, Nat.reduceMul, Nat.reduceSub, ↓reduceIte, Int.reduceEq, Int.reduceNe, Nat.reduceLeDiff, one, Value.cells, Int.reduceLE, Int.reduceLT, Int.reduceToNat, add_mk, reduceCtorEq, List.mem_range'_1, true_and, and_true, and_false, false_and, Nat.reduceLT, Nat.reduceLeDiff, tyF, h5, h6, link_build0 w]
        refine st_all hb5 rfl rfl (by intro u hu; simp at hu; rcases hu with rfl | rfl <;> rfl) fun w9 k1 k2 => ?_
        have r2 := k2.all_eq 2 rfl
        simp (config := {maxSteps := 1000000, implicitDefEqProofs := false}) only [↓zvD, zvU, ↓up_apply, ↓hv_apply, ↓upO_some, ↓upO_none, ↓ev_tmp, ↓ev_const, ↓ev_func, ↓ev_global, init, Nat.reduceEqDiff, Nat.reduceAdd, Nat.reduceMul, Nat.reduceSub, ↓reduceIte, Int.reduceEq, Int.reduceNe, Nat.reduceLeDiff, one, Value.cells, Int.reduceLE, Int.reduceLT, Int.reduceToNat, add_mk, reduceCtorEq, List.mem_range'_1, true_and, and_true, and_false, false_and, Nat.reduceLT, Nat.reduceLeDiff, tyF, r2]
        exact out _ _ _ hm5 k1 h6m
  · have htg : isTag (two l (12 + 4 * n)) = false := by rw [← ht]; simp [isTag, hn1, hn2]
    have hgo2 := ethGo_end (r := 2 - n) (show 12 + 4 * n + 2 ≤ l.length by omega) htg
    rw [hgo, ← ht] at hgo2
    subst hs
    simp (config := {maxSteps := 1000000, implicitDefEqProofs := false}) only [↓zvD, zvU, ↓up_apply, ↓hv_apply, ↓upO_some, ↓upO_none, ↓ev_tmp, ↓ev_const, ↓ev_func, ↓ev_global, init, Nat.reduceEqDiff, Nat.reduceAdd, Nat.reduceMul, Nat.reduceSub, ↓reduceIte, Int.reduceEq, Int.reduceNe, Nat.reduceLeDiff, one, Value.cells, Int.reduceLE, Int.reduceLT, Int.reduceToNat, add_mk, reduceCtorEq, List.mem_range'_1, true_and, and_true, and_false, false_and, Nat.reduceLT, Nat.reduceLeDiff, tyF, h5, h6, hn1, hn2]
    refine call_ok Tryz.call82 (cur_bad w5 F q _ hI5) ?_
    rintro _ w6 ⟨rfl, rfl⟩
    by_cases hip : t = 2048 ∨ t = 34525
    · rw [if_neg (by omega)] at hgo2
      have go : ∀ K, (∀ w7, w7 = w6 → K (.int .i64 ((l.length - (14 + 4 * n) : Nat) : Int)) w7) → callP Tryz.prog (.func (.func 79) #[] #[]) #[.pointer (some ⟨q, 0, none⟩)] w6 K := by
        intro K hK
        refine call_ok Tryz.call79 (cur_left w6 F q _ hI5) ?_
        rintro _ w7 ⟨rfl, rfl⟩
        have := hK w7 rfl
        rw [← List.length_drop] at this
        exact this
      have esub : IntKind.i64.wrap ((l.length : Int) - ((l.length - (14 + 4 * n) : Nat) : Int)) = ((12 + 4 * n + 2 : Nat) : Int) := by
        rw [show (l.length : Int) - ((l.length - (14 + 4 * n) : Nat) : Int) = ((12 + 4 * n + 2 : Nat) : Int) by omega]
        exact w64 (by omega) (by omega)
      rcases hip with rfl | rfl
      · simp (config := {maxSteps := 1000000, implicitDefEqProofs := false}) only [↓zvD, zvU, ↓up_apply, ↓hv_apply, ↓upO_some, ↓upO_none, ↓ev_tmp, ↓ev_const, ↓ev_func, ↓ev_global, init, Nat.reduceEqDiff, Nat.reduceAdd, Nat.reduceMul, Nat.reduceSub, ↓reduceIte, Int.reduceEq, Int.reduceNe, Nat.reduceLeDiff, one, Value.cells, Int.reduceLE, Int.reduceLT, Int.reduceToNat, add_mk, reduceCtorEq, List.mem_range'_1, true_and, and_true, and_false, false_and, Nat.reduceLT, Nat.reduceLeDiff, tyF, h5]
        refine go _ fun w7 hw7 => ?_
        subst hw7
        simp (config := {maxSteps := 1000000, implicitDefEqProofs := false}) only [↓zvD, zvU, ↓up_apply, ↓hv_apply, ↓upO_some, ↓upO_none, ↓ev_tmp, ↓ev_const, ↓ev_func, ↓ev_global, init, Nat.reduceEqDiff, Nat.reduceAdd, Nat.reduceMul, Nat.reduceSub, ↓reduceIte, Int.reduceEq, Int.reduceNe, Nat.reduceLeDiff, one, Value.cells, Int.reduceLE, Int.reduceLT, Int.reduceToNat, add_mk, reduceCtorEq, List.mem_range'_1, true_and, and_true, and_false, false_and, Nat.reduceLT, Nat.reduceLeDiff, tyF, esub, link_build _ _ w]
        refine st_all hb5 rfl rfl (by intro u hu; simp at hu; rcases hu with rfl | rfl <;> rfl) fun w9 k1 k2 => ?_
        have r2 := k2.all_eq 2 rfl
        simp (config := {maxSteps := 1000000, implicitDefEqProofs := false}) only [↓zvD, zvU, ↓up_apply, ↓hv_apply, ↓upO_some, ↓upO_none, ↓ev_tmp, ↓ev_const, ↓ev_func, ↓ev_global, init, Nat.reduceEqDiff, Nat.reduceAdd, Nat.reduceMul, Nat.reduceSub, ↓reduceIte, Int.reduceEq, Int.reduceNe, Nat.reduceLeDiff, one, Value.cells, Int.reduceLE, Int.reduceLT, Int.reduceToNat, add_mk, reduceCtorEq, List.mem_range'_1, true_and, and_true, and_false, false_and, Nat.reduceLT, Nat.reduceLeDiff, tyF, r2]
        exact out _ _ _ hm5 k1 hgo2
      · simp (config := {maxSteps := 1000000, implicitDefEqProofs := false}) only [↓zvD, zvU, ↓up_apply, ↓hv_apply, ↓upO_some, ↓upO_none, ↓ev_tmp, ↓ev_const, ↓ev_func, ↓ev_global, init, Nat.reduceEqDiff, Nat.reduceAdd, Nat.reduceMul, Nat.reduceSub, ↓reduceIte, Int.reduceEq, Int.reduceNe, Nat.reduceLeDiff, one, Value.cells, Int.reduceLE, Int.reduceLT, Int.reduceToNat, add_mk, reduceCtorEq, List.mem_range'_1, true_and, and_true, and_false, false_and, Nat.reduceLT, Nat.reduceLeDiff, tyF, h5]
        refine go _ fun w7 hw7 => ?_
        subst hw7
        simp (config := {maxSteps := 1000000, implicitDefEqProofs := false}) only [↓zvD, zvU, ↓up_apply, ↓hv_apply, ↓upO_some, ↓upO_none, ↓ev_tmp, ↓ev_const, ↓ev_func, ↓ev_global, init, Nat.reduceEqDiff, Nat.reduceAdd, Nat.reduceMul, Nat.reduceSub, ↓reduceIte, Int.reduceEq, Int.reduceNe, Nat.reduceLeDiff, one, Value.cells, Int.reduceLE, Int.reduceLT, Int.reduceToNat, add_mk, reduceCtorEq, List.mem_range'_1, true_and, and_true, and_false, false_and, Nat.reduceLT, Nat.reduceLeDiff, tyF, esub, link_build _ _ w]
        refine st_all hb5 rfl rfl (by intro u hu; simp at hu; rcases hu with rfl | rfl <;> rfl) fun w9 k1 k2 => ?_
        have r2 := k2.all_eq 2 rfl
        simp (config := {maxSteps := 1000000, implicitDefEqProofs := false}) only [↓zvD, zvU, ↓up_apply, ↓hv_apply, ↓upO_some, ↓upO_none, ↓ev_tmp, ↓ev_const, ↓ev_func, ↓ev_global, init, Nat.reduceEqDiff, Nat.reduceAdd, Nat.reduceMul, Nat.reduceSub, ↓reduceIte, Int.reduceEq, Int.reduceNe, Nat.reduceLeDiff, one, Value.cells, Int.reduceLE, Int.reduceLT, Int.reduceToNat, add_mk, reduceCtorEq, List.mem_range'_1, true_and, and_true, and_false, false_and, Nat.reduceLT, Nat.reduceLeDiff, tyF, r2]
        exact out _ _ _ hm5 k1 hgo2
    · have hi1 : ¬ t = 2048 := fun h => hip (.inl h)
      have hi2 : ¬ t = 34525 := fun h => hip (.inr h)
      rw [if_pos ⟨hi1, hi2⟩] at hgo2
      simp (config := {maxSteps := 1000000, implicitDefEqProofs := false}) only [↓zvD, zvU, ↓up_apply, ↓hv_apply, ↓upO_some, ↓upO_none, ↓ev_tmp, ↓ev_const, ↓ev_func, ↓ev_global, init, Nat.reduceEqDiff, Nat.reduceAdd, Nat.reduceMul, Nat.reduceSub, ↓reduceIte, Int.reduceEq, Int.reduceNe, Nat.reduceLeDiff, one, Value.cells, Int.reduceLE, Int.reduceLT, Int.reduceToNat, add_mk, reduceCtorEq, List.mem_range'_1, true_and, and_true, and_false, false_and, Nat.reduceLT, Nat.reduceLeDiff, tyF, h5, hi1, hi2, link_build0 w]
      refine st_all hb5 rfl rfl (by intro u hu; simp at hu; rcases hu with rfl | rfl <;> rfl) fun w9 k1 k2 => ?_
      have r2 := k2.all_eq 2 rfl
      simp (config := {maxSteps := 1000000, implicitDefEqProofs := false}) only [↓zvD, zvU, ↓up_apply, ↓hv_apply, ↓upO_some, ↓upO_none, ↓ev_tmp, ↓ev_const, ↓ev_func, ↓ev_global, init, Nat.reduceEqDiff, Nat.reduceAdd, Nat.reduceMul, Nat.reduceSub, ↓reduceIte, Int.reduceEq, Int.reduceNe, Nat.reduceLeDiff, one, Value.cells, Int.reduceLE, Int.reduceLT, Int.reduceToNat, add_mk, reduceCtorEq, List.mem_range'_1, true_and, and_true, and_false, false_and, Nat.reduceLT, Nat.reduceLeDiff, tyF, r2]
      exact out _ _ _ hm5 k1 hgo2
end Go.Proofs.YtahcaplhdgphcaaGreat
