/-
  Layer 11: what ports.Parse and its reference come to.
-/
import Derived.Test.YtahcaplhdgphcaaGreatNetM
import Derived.Test.YtahcaplhdgphcaaGreatCurNum
namespace Go.Proofs.YtahcaplhdgphcaaGreat
open Go Go.RowKit Go.Proofs.RV
set_option linter.unusedSimpArgs false
set_option linter.unusedVariables false
set_option maxRecDepth 10000
set_option maxHeartbeats 2000000

def twoPorts (n : NetM) : Bool := decide (n.proto = 6) || decide (n.proto = 17)
def onePort (v6 : Bool) (n : NetM) : Bool := if v6 = true then decide (n.proto = 58) else decide (n.proto = 1)
/-- a packet's ports, and the reason -/
def portsM (v6 : Bool) (n : NetM) : Int × Int × Int :=
  if n.first = false then (0, 0, 0) else
  if twoPorts n = true then (if n.body.length < 4 then (0, 0, 1) else (two n.body 0, two n.body 2, 0)) else
  if onePort v6 n = true then (if n.body.length < 2 then (0, 0, 1) else (two n.body 0, 0, 0)) else (0, 0, 0)
theorem be_two (l : List UInt8) (h : 2 ≤ l.length) : be (l.take 2) = two l 0 := by
  rw [be_step (l := l) (k := 1) (by omega), be_step (l := l) (k := 0) (by omega)]
  simp [be, two]
theorem two_drop (l : List UInt8) (k i : Nat) : two (l.drop k) i = two l (k + i) := by
  unfold two
  rw [bt_drop, bt_drop, Nat.add_assoc]
/-- which packets have how many ports -/
theorem proto_cases (v6 : Bool) (n : NetM) : n.first = false ∨ n.first = true ∧ (n.proto = 6 ∧ (v6 = true ∨ v6 = false) ∨ n.proto = 17 ∧ (v6 = true ∨ v6 = false) ∨ v6 = true ∧ n.proto = 58 ∨ v6 = false ∧ n.proto = 1 ∨ (¬ n.proto = 6 ∧ ¬ n.proto = 17 ∧ (v6 = true ∧ ¬ n.proto = 58 ∨ v6 = false ∧ ¬ n.proto = 1))) := by
  cases n.first <;> cases v6 <;> simp <;> omega
def PortsR (v6 : Bool) (n : NetM) (w : World) (v : Value) (w' : World) : Prop := v = .tuple #[.int .u16 (portsM v6 n).1, .int .u16 (portsM v6 n).2.1, .int .i64 (portsM v6 n).2.2] ∧ More w w'
theorem ports_parse (w : World) (v6 : Bool) (n : NetM) (A : Option Addr) (c : Nat) (hn : n.Fit) (hA : Bs w A n.body) (hl : n.body.length ≤ 1000000) :
    Ret Tryz.prog 60 #[.bool v6, .agg (n.cells A c).toArray] w (PortsR v6 n w) := by
  refine ret_of Tryz.func60 rfl (by kernel_rfl) (Nat.le_of_ble_eq_true (by kernel_rfl)) ?_
  replace hl : n.body.length ≤ 4000000 := by omega
  have hm1 := more_alloc w (.cells (n.cells A c).toArray 127)
  have hb1 := Blk.new w 127 (n.cells A c).toArray
  have hA1 := hA.more hm1
  have s1 : (w.alloc (.cells (n.cells A c).toArray 127)).heap.size = w.heap.size + 1 := size_alloc _ _
  simp (config := {maxSteps := 1000000, implicitDefEqProofs := false}) only [↓zvD, zvU, ↓up_apply, ↓hv_apply, ↓upO_some, ↓upO_none, ↓ev_tmp, ↓ev_const, ↓ev_func, ↓ev_global, init, Nat.reduceEqDiff, Nat.reduceAdd, Nat.reduceMul, Nat.reduceSub, ↓reduceIte, Int.reduceEq, Int.reduceNe, Nat.reduceLeDiff, one, Value.cells, Int.reduceLE, Int.reduceLT, Int.reduceToNat, add_mk, reduceCtorEq, List.mem_range'_1, true_and, and_true, and_false, false_and, Nat.reduceLT, Nat.reduceLeDiff, tyF]
  generalize w.alloc (.cells (n.cells A c).toArray 127) = w1 at hm1 hb1 hA1 s1 ⊢
  -- one port, then the second
  have start : ∀ K, (∀ q w2, w1.heap.size ≤ q → InW w2 (fun k => w1.heap.size ≤ k ∧ k < q) q ⟨n.body, false⟩ → More w1 w2 → K (.pointer (some ⟨q, 0, none⟩)) w2) → callP Tryz.prog (.func (.func 78) #[] #[]) #[.slice A n.body.length c] w1 K := by
    intro K hK
    refine call_ok Tryz.call78 (cur_new w1 A n.body c hA1 hl) ?_
    rintro _ w2 ⟨q, rfl, hq, hI, hm2⟩
    exact hK q w2 hq hI hm2
  rcases proto_cases v6 n with h | ⟨hf, ⟨h, rfl | rfl⟩ | ⟨h, rfl | rfl⟩ | ⟨rfl, h⟩ | ⟨rfl, h⟩ | ⟨h1, h2, ⟨rfl, h3⟩ | ⟨rfl, h3⟩⟩⟩
  · have e : portsM v6 n = (0, 0, 0) := by unfold portsM; rw [if_pos h]
    unfold PortsR
    rw [e]
    have fin : ∀ K : Prop, K → K := fun _ h => h
    cases v6 <;> simp (config := {maxSteps := 1000000, implicitDefEqProofs := false}) only [↓zvD, zvU, ↓up_apply, ↓hv_apply, ↓upO_some, ↓upO_none, ↓ev_tmp, ↓ev_const, ↓ev_func, ↓ev_global, init, Nat.reduceEqDiff, Nat.reduceAdd, Nat.reduceMul, Nat.reduceSub, ↓reduceIte, Int.reduceEq, Int.reduceNe, Nat.reduceLeDiff, one, Value.cells, Int.reduceLE, Int.reduceLT, Int.reduceToNat, add_mk, reduceCtorEq, List.mem_range'_1, true_and, and_true, and_false, false_and, Nat.reduceLT, Nat.reduceLeDiff, tyF, hb1.cell, NetM.c0, NetM.cBody hn, NetM.cFirst hn, h, hm1, ite_self] <;> simp (config := {maxSteps := 1000000}) [condB, condP]
  · simp (config := {maxSteps := 1000000, implicitDefEqProofs := false}) only [↓zvD, zvU, ↓up_apply, ↓hv_apply, ↓upO_some, ↓upO_none, ↓ev_tmp, ↓ev_const, ↓ev_func, ↓ev_global, init, Nat.reduceEqDiff, Nat.reduceAdd, Nat.reduceMul, Nat.reduceSub, ↓reduceIte, Int.reduceEq, Int.reduceNe, Nat.reduceLeDiff, one, Value.cells, Int.reduceLE, Int.reduceLT, Int.reduceToNat, add_mk, reduceCtorEq, List.mem_range'_1, true_and, and_true, and_false, false_and, Nat.reduceLT, Nat.reduceLeDiff, tyF, hb1.cell, NetM.c0, NetM.cBody hn, NetM.cFirst hn, h, hf]
    refine start _ fun q w2 hq hI2 hm2 => ?_
    simp (config := {maxSteps := 1000000, implicitDefEqProofs := false}) only [↓zvD, zvU, ↓up_apply, ↓hv_apply, ↓upO_some, ↓upO_none, ↓ev_tmp, ↓ev_const, ↓ev_func, ↓ev_global, init, Nat.reduceEqDiff, Nat.reduceAdd, Nat.reduceMul, Nat.reduceSub, ↓reduceIte, Int.reduceEq, Int.reduceNe, Nat.reduceLeDiff, one, Value.cells, Int.reduceLE, Int.reduceLT, Int.reduceToNat, add_mk, reduceCtorEq, List.mem_range'_1, true_and, and_true, and_false, false_and, Nat.reduceLT, Nat.reduceLeDiff, tyF, h, hf]
    refine call_ok Tryz.call116 (cur_u16 w2 _ q _ hI2 hl) ?_
    rintro _ w3 ⟨rfl, hI3, hb3⟩
    simp (config := {maxSteps := 1000000, implicitDefEqProofs := false}) only [↓zvD, zvU, ↓up_apply, ↓hv_apply, ↓upO_some, ↓upO_none, ↓ev_tmp, ↓ev_const, ↓ev_func, ↓ev_global, init, Nat.reduceEqDiff, Nat.reduceAdd, Nat.reduceMul, Nat.reduceSub, ↓reduceIte, Int.reduceEq, Int.reduceNe, Nat.reduceLeDiff, one, Value.cells, Int.reduceLE, Int.reduceLT, Int.reduceToNat, add_mk, reduceCtorEq, List.mem_range'_1, true_and, and_true, and_false, false_and, Nat.reduceLT, Nat.reduceLeDiff, tyF, h, hf]
    refine call_ok Tryz.call116 (cur_u16 w3 _ q _ hI3 (Nat.le_trans (InM.take_rest _ _) hl)) ?_
    rintro _ w4 ⟨rfl, hI4, hb4⟩
    simp (config := {maxSteps := 1000000, implicitDefEqProofs := false}) only [↓zvD, zvU, ↓up_apply, ↓hv_apply, ↓upO_some, ↓upO_none, ↓ev_tmp, ↓ev_const, ↓ev_func, ↓ev_global, init, Nat.reduceEqDiff, Nat.reduceAdd, Nat.reduceMul, Nat.reduceSub, ↓reduceIte, Int.reduceEq, Int.reduceNe, Nat.reduceLeDiff, one, Value.cells, Int.reduceLE, Int.reduceLT, Int.reduceToNat, add_mk, reduceCtorEq, List.mem_range'_1, true_and, and_true, and_false, false_and, Nat.reduceLT, Nat.reduceLeDiff, tyF, h, hf]
    refine call_ok Tryz.call82 (cur_bad w4 _ q _ hI4) ?_
    rintro _ w5 ⟨rfl, rfl⟩
    have hm5 : More w w5 := more_but (hm1.trans hm2) (hb3.trans hb4) (by omega)
    rcases Nat.lt_or_ge n.body.length 2 with h5 | h5
    · rw [take2_short h5, take_bad]
      simp (config := {maxSteps := 1000000, implicitDefEqProofs := false}) only [↓zvD, zvU, ↓up_apply, ↓hv_apply, ↓upO_some, ↓upO_none, ↓ev_tmp, ↓ev_const, ↓ev_func, ↓ev_global, init, Nat.reduceEqDiff, Nat.reduceAdd, Nat.reduceMul, Nat.reduceSub, ↓reduceIte, Int.reduceEq, Int.reduceNe, Nat.reduceLeDiff, one, Value.cells, Int.reduceLE, Int.reduceLT, Int.reduceToNat, add_mk, reduceCtorEq, List.mem_range'_1, true_and, and_true, and_false, false_and, Nat.reduceLT, Nat.reduceLeDiff, tyF]
      unfold PortsR
      simp [portsM, twoPorts, onePort, h, hf, show n.body.length < 4 by omega, hm5, be_nil]
    · rw [take2_ok h5]
      rcases Nat.lt_or_ge n.body.length 4 with h6 | h6
      · rw [take2_short (by rw [List.length_drop]; omega)]
        simp (config := {maxSteps := 1000000, implicitDefEqProofs := false}) only [↓zvD, zvU, ↓up_apply, ↓hv_apply, ↓upO_some, ↓upO_none, ↓ev_tmp, ↓ev_const, ↓ev_func, ↓ev_global, init, Nat.reduceEqDiff, Nat.reduceAdd, Nat.reduceMul, Nat.reduceSub, ↓reduceIte, Int.reduceEq, Int.reduceNe, Nat.reduceLeDiff, one, Value.cells, Int.reduceLE, Int.reduceLT, Int.reduceToNat, add_mk, reduceCtorEq, List.mem_range'_1, true_and, and_true, and_false, false_and, Nat.reduceLT, Nat.reduceLeDiff, tyF]
        unfold PortsR
        simp [portsM, twoPorts, onePort, h, hf, h6, hm5]
      · rw [take2_ok (by rw [List.length_drop]; omega)]
        simp (config := {maxSteps := 1000000, implicitDefEqProofs := false}) only [↓zvD, zvU, ↓up_apply, ↓hv_apply, ↓upO_some, ↓upO_none, ↓ev_tmp, ↓ev_const, ↓ev_func, ↓ev_global, init, Nat.reduceEqDiff, Nat.reduceAdd, Nat.reduceMul, Nat.reduceSub, ↓reduceIte, Int.reduceEq, Int.reduceNe, Nat.reduceLeDiff, one, Value.cells, Int.reduceLE, Int.reduceLT, Int.reduceToNat, add_mk, reduceCtorEq, List.mem_range'_1, true_and, and_true, and_false, false_and, Nat.reduceLT, Nat.reduceLeDiff, tyF]
        unfold PortsR
        rw [be_two _ h5, be_two _ (by rw [List.length_drop]; omega), two_drop]
        simp [portsM, twoPorts, onePort, h, hf, show ¬ n.body.length < 4 by omega, hm5]
  · simp (config := {maxSteps := 1000000, implicitDefEqProofs := false}) only [↓zvD, zvU, ↓up_apply, ↓hv_apply, ↓upO_some, ↓upO_none, ↓ev_tmp, ↓ev_const, ↓ev_func, ↓ev_global, init, Nat.reduceEqDiff, Nat.reduceAdd, Nat.reduceMul, Nat.reduceSub, ↓reduceIte, Int.reduceEq, Int.reduceNe, Nat.reduceLeDiff, one, Value.cells, Int.reduceLE, Int.reduceLT, Int.reduceToNat, add_mk, reduceCtorEq, List.mem_range'_1, true_and, and_true, and_false, false_and, Nat.reduceLT, Nat.reduceLeDiff, tyF, hb1.cell, NetM.c0, NetM.cBody hn, NetM.cFirst hn, h, hf]
    refine start _ fun q w2 hq hI2 hm2 => ?_
    simp (config := {maxSteps := 1000000, implicitDefEqProofs := false}) only [↓zvD, zvU, ↓up_apply, ↓hv_apply, ↓upO_some, ↓upO_none, ↓ev_tmp, ↓ev_const, ↓ev_func, ↓ev_global, init, Nat.reduceEqDiff, Nat.reduceAdd, Nat.reduceMul, Nat.reduceSub, ↓reduceIte, Int.reduceEq, Int.reduceNe, Nat.reduceLeDiff, one, Value.cells, Int.reduceLE, Int.reduceLT, Int.reduceToNat, add_mk, reduceCtorEq, List.mem_range'_1, true_and, and_true, and_false, false_and, Nat.reduceLT, Nat.reduceLeDiff, tyF, h, hf]
    refine call_ok Tryz.call116 (cur_u16 w2 _ q _ hI2 hl) ?_
    rintro _ w3 ⟨rfl, hI3, hb3⟩
    simp (config := {maxSteps := 1000000, implicitDefEqProofs := false}) only [↓zvD, zvU, ↓up_apply, ↓hv_apply, ↓upO_some, ↓upO_none, ↓ev_tmp, ↓ev_const, ↓ev_func, ↓ev_global, init, Nat.reduceEqDiff, Nat.reduceAdd, Nat.reduceMul, Nat.reduceSub, ↓reduceIte, Int.reduceEq, Int.reduceNe, Nat.reduceLeDiff, one, Value.cells, Int.reduceLE, Int.reduceLT, Int.reduceToNat, add_mk, reduceCtorEq, List.mem_range'_1, true_and, and_true, and_false, false_and, Nat.reduceLT, Nat.reduceLeDiff, tyF, h, hf]
    refine call_ok Tryz.call116 (cur_u16 w3 _ q _ hI3 (Nat.le_trans (InM.take_rest _ _) hl)) ?_
    rintro _ w4 ⟨rfl, hI4, hb4⟩
    simp (config := {maxSteps := 1000000, implicitDefEqProofs := false}) only [↓zvD, zvU, ↓up_apply, ↓hv_apply, ↓upO_some, ↓upO_none, ↓ev_tmp, ↓ev_const, ↓ev_func, ↓ev_global, init, Nat.reduceEqDiff, Nat.reduceAdd, Nat.reduceMul, Nat.reduceSub, ↓reduceIte, Int.reduceEq, Int.reduceNe, Nat.reduceLeDiff, one, Value.cells, Int.reduceLE, Int.reduceLT, Int.reduceToNat, add_mk, reduceCtorEq, List.mem_range'_1, true_and, and_true, and_false, false_and, Nat.reduceLT, Nat.reduceLeDiff, tyF, h, hf]
    refine call_ok Tryz.call82 (cur_bad w4 _ q _ hI4) ?_
    rintro _ w5 ⟨rfl, rfl⟩
    have hm5 : More w w5 := more_but (hm1.trans hm2) (hb3.trans hb4) (by omega)
    rcases Nat.lt_or_ge n.body.length 2 with h5 | h5
    · rw [take2_short h5, take_bad]
      simp (config := {maxSteps := 1000000, implicitDefEqProofs := false}) only [↓zvD, zvU, ↓up_apply, ↓hv_apply, ↓upO_some, ↓upO_none, ↓ev_tmp, ↓ev_const, ↓ev_func, ↓ev_global, init, Nat.reduceEqDiff, Nat.reduceAdd, Nat.reduceMul, Nat.reduceSub, ↓reduceIte, Int.reduceEq, Int.reduceNe, Nat.reduceLeDiff, one, Value.cells, Int.reduceLE, Int.reduceLT, Int.reduceToNat, add_mk, reduceCtorEq, List.mem_range'_1, true_and, and_true, and_false, false_and, Nat.reduceLT, Nat.reduceLeDiff, tyF]
      unfold PortsR
      simp [portsM, twoPorts, onePort, h, hf, show n.body.length < 4 by omega, hm5, be_nil]
    · rw [take2_ok h5]
      rcases Nat.lt_or_ge n.body.length 4 with h6 | h6
      · rw [take2_short (by rw [List.length_drop]; omega)]
        simp (config := {maxSteps := 1000000, implicitDefEqProofs := false}) only [↓zvD, zvU, ↓up_apply, ↓hv_apply, ↓upO_some, ↓upO_none, ↓ev_tmp, ↓ev_const, ↓ev_func, ↓ev_global, init, Nat.reduceEqDiff, Nat.reduceAdd, Nat.reduceMul, Nat.reduceSub, ↓reduceIte, Int.reduceEq, Int.reduceNe, Nat.reduceLeDiff, one, Value.cells, Int.reduceLE, Int.reduceLT, Int.reduceToNat, add_mk, reduceCtorEq, List.mem_range'_1, true_and, and_true, and_false, false_and, Nat.reduceLT, Nat.reduceLeDiff, tyF]
        unfold PortsR
        simp [portsM, twoPorts, onePort, h, hf, h6, hm5]
      · rw [take2_ok (by rw [List.length_drop]; omega)]
        simp (config := {maxSteps := 1000000, implicitDefEqProofs := false}) only [↓zvD, zvU, ↓up_apply, ↓hv_apply, ↓upO_some, ↓upO_none, ↓ev_tmp, ↓ev_const, ↓ev_func, ↓ev_global, init, Nat.reduceEqDiff, Nat.reduceAdd, Nat.reduceMul, Nat.reduceSub, ↓reduceIte, Int.reduceEq, Int.reduceNe, Nat.reduceLeDiff, one, Value.cells, Int.reduceLE, Int.reduceLT, Int.reduceToNat, add_mk, reduceCtorEq, List.mem_range'_1, true_and, and_true, and_false, false_and, Nat.reduceLT, Nat.reduceLeDiff, tyF]
        unfold PortsR
        rw [be_two _ h5, be_two _ (by rw [List.length_drop]; omega), two_drop]
        simp [portsM, twoPorts, onePort, h, hf, show ¬ n.body.length < 4 by omega, hm5]
  · simp (config := {maxSteps := 1000000, implicitDefEqProofs := false}) only [↓zvD, zvU, ↓up_apply, ↓hv_apply, ↓upO_some, ↓upO_none, ↓ev_tmp, ↓ev_const, ↓ev_func, ↓ev_global, init, Nat.reduceEqDiff, Nat.reduceAdd, Nat.reduceMul, Nat.reduceSub, ↓reduceIte, Int.reduceEq, Int.reduceNe, Nat.reduceLeDiff, one, Value.cells, Int.reduceLE, Int.reduceLT, Int.reduceToNat, add_mk, reduceCtorEq, List.mem_range'_1, true_and, and_true, and_false, false_and, Nat.reduceLT, Nat.reduceLeDiff, tyF, hb1.cell, NetM.c0, NetM.cBody hn, NetM.cFirst hn, h, hf]
    refine start _ fun q w2 hq hI2 hm2 => ?_
    simp (config := {maxSteps := 1000000, implicitDefEqProofs := false}) only [↓zvD, zvU, ↓up_apply, ↓hv_apply, ↓upO_some, ↓upO_none, ↓ev_tmp, ↓ev_const, ↓ev_func, ↓ev_global, init, Nat.reduceEqDiff, Nat.reduceAdd, Nat.reduceMul, Nat.reduceSub, ↓reduceIte, Int.reduceEq, Int.reduceNe, Nat.reduceLeDiff, one, Value.cells, Int.reduceLE, Int.reduceLT, Int.reduceToNat, add_mk, reduceCtorEq, List.mem_range'_1, true_and, and_true, and_false, false_and, Nat.reduceLT, Nat.reduceLeDiff, tyF, h, hf]
    refine call_ok Tryz.call116 (cur_u16 w2 _ q _ hI2 hl) ?_
    rintro _ w3 ⟨rfl, hI3, hb3⟩
    simp (config := {maxSteps := 1000000, implicitDefEqProofs := false}) only [↓zvD, zvU, ↓up_apply, ↓hv_apply, ↓upO_some, ↓upO_none, ↓ev_tmp, ↓ev_const, ↓ev_func, ↓ev_global, init, Nat.reduceEqDiff, Nat.reduceAdd, Nat.reduceMul, Nat.reduceSub, ↓reduceIte, Int.reduceEq, Int.reduceNe, Nat.reduceLeDiff, one, Value.cells, Int.reduceLE, Int.reduceLT, Int.reduceToNat, add_mk, reduceCtorEq, List.mem_range'_1, true_and, and_true, and_false, false_and, Nat.reduceLT, Nat.reduceLeDiff, tyF, h, hf]
    refine call_ok Tryz.call116 (cur_u16 w3 _ q _ hI3 (Nat.le_trans (InM.take_rest _ _) hl)) ?_
    rintro _ w4 ⟨rfl, hI4, hb4⟩
    simp (config := {maxSteps := 1000000, implicitDefEqProofs := false}) only [↓zvD, zvU, ↓up_apply, ↓hv_apply, ↓upO_some, ↓upO_none, ↓ev_tmp, ↓ev_const, ↓ev_func, ↓ev_global, init, Nat.reduceEqDiff, Nat.reduceAdd, Nat.reduceMul, Nat.reduceSub, ↓reduceIte, Int.reduceEq, Int.reduceNe, Nat.reduceLeDiff, one, Value.cells, Int.reduceLE, Int.reduceLT, Int.reduceToNat, add_mk, reduceCtorEq, List.mem_range'_1, true_and, and_true, and_false, false_and, Nat.reduceLT, Nat.reduceLeDiff, tyF, h, hf]
    refine call_ok Tryz.call82 (cur_bad w4 _ q _ hI4) ?_
    rintro _ w5 ⟨rfl, rfl⟩
    have hm5 : More w w5 := more_but (hm1.trans hm2) (hb3.trans hb4) (by omega)
    rcases Nat.lt_or_ge n.body.length 2 with h5 | h5
    · rw [take2_short h5, take_bad]
      simp (config := {maxSteps := 1000000, implicitDefEqProofs := false}) only [↓zvD, zvU, ↓up_apply, ↓hv_apply, ↓upO_some, ↓upO_none, ↓ev_tmp, ↓ev_const, ↓ev_func, ↓ev_global, init, Nat.reduceEqDiff, Nat.reduceAdd, Nat.reduceMul, Nat.reduceSub, ↓reduceIte, Int.reduceEq, Int.reduceNe, Nat.reduceLeDiff, one, Value.cells, Int.reduceLE, Int.reduceLT, Int.reduceToNat, add_mk, reduceCtorEq, List.mem_range'_1, true_and, and_true, and_false, false_and, Nat.reduceLT, Nat.reduceLeDiff, tyF]
      unfold PortsR
      simp [portsM, twoPorts, onePort, h, hf, show n.body.length < 4 by omega, hm5, be_nil]
    · rw [take2_ok h5]
      rcases Nat.lt_or_ge n.body.length 4 with h6 | h6
      · rw [take2_short (by rw [List.length_drop]; omega)]
        simp (config := {maxSteps := 1000000, implicitDefEqProofs := false}) only [↓zvD, zvU, ↓up_apply, ↓hv_apply, ↓upO_some, ↓upO_none, ↓ev_tmp, ↓ev_const, ↓ev_func, ↓ev_global, init, Nat.reduceEqDiff, Nat.reduceAdd, Nat.reduceMul, Nat.reduceSub, ↓reduceIte, Int.reduceEq, Int.reduceNe, Nat.reduceLeDiff, one, Value.cells, Int.reduceLE, Int.reduceLT, Int.reduceToNat, add_mk, reduceCtorEq, List.mem_range'_1, true_and, and_true, and_false, false_and, Nat.reduceLT, Nat.reduceLeDiff, tyF]
        unfold PortsR
        simp [portsM, twoPorts, onePort, h, hf, h6, hm5]
      · rw [take2_ok (by rw [List.length_drop]; omega)]
        simp (config := {maxSteps := 1000000, implicitDefEqProofs := false}) only [↓zvD, zvU, ↓up_apply, ↓hv_apply, ↓upO_some, ↓upO_none, ↓ev_tmp, ↓ev_const, ↓ev_func, ↓ev_global, init, Nat.reduceEqDiff, Nat.reduceAdd, Nat.reduceMul, Nat.reduceSub, ↓reduceIte, Int.reduceEq, Int.reduceNe, Nat.reduceLeDiff, one, Value.cells, Int.reduceLE, Int.reduceLT, Int.reduceToNat, add_mk, reduceCtorEq, List.mem_range'_1, true_and, and_true, and_false, false_and, Nat.reduceLT, Nat.reduceLeDiff, tyF]
        unfold PortsR
        rw [be_two _ h5, be_two _ (by rw [List.length_drop]; omega), two_drop]
        simp [portsM, twoPorts, onePort, h, hf, show ¬ n.body.length < 4 by omega, hm5]
  · simp (config := {maxSteps := 1000000, implicitDefEqProofs := false}) only [↓zvD, zvU, ↓up_apply, ↓hv_apply, ↓upO_some, ↓upO_none, ↓ev_tmp, ↓ev_const, ↓ev_func, ↓ev_global, init, Nat.reduceEqDiff, Nat.reduceAdd, Nat.reduceMul, Nat.reduceSub, ↓reduceIte, Int.reduceEq, Int.reduceNe, Nat.reduceLeDiff, one, Value.cells, Int.reduceLE, Int.reduceLT, Int.reduceToNat, add_mk, reduceCtorEq, List.mem_range'_1, true_and, and_true, and_false, false_and, Nat.reduceLT, Nat.reduceLeDiff, tyF, hb1.cell, NetM.c0, NetM.cBody hn, NetM.cFirst hn, h, hf]
    refine start _ fun q w2 hq hI2 hm2 => ?_
    simp (config := {maxSteps := 1000000, implicitDefEqProofs := false}) only [↓zvD, zvU, ↓up_apply, ↓hv_apply, ↓upO_some, ↓upO_none, ↓ev_tmp, ↓ev_const, ↓ev_func, ↓ev_global, init, Nat.reduceEqDiff, Nat.reduceAdd, Nat.reduceMul, Nat.reduceSub, ↓reduceIte, Int.reduceEq, Int.reduceNe, Nat.reduceLeDiff, one, Value.cells, Int.reduceLE, Int.reduceLT, Int.reduceToNat, add_mk, reduceCtorEq, List.mem_range'_1, true_and, and_true, and_false, false_and, Nat.reduceLT, Nat.reduceLeDiff, tyF, h, hf]
    refine call_ok Tryz.call116 (cur_u16 w2 _ q _ hI2 hl) ?_
    rintro _ w3 ⟨rfl, hI3, hb3⟩
    simp (config := {maxSteps := 1000000, implicitDefEqProofs := false}) only [↓zvD, zvU, ↓up_apply, ↓hv_apply, ↓upO_some, ↓upO_none, ↓ev_tmp, ↓ev_const, ↓ev_func, ↓ev_global, init, Nat.reduceEqDiff, Nat.reduceAdd, Nat.reduceMul, Nat.reduceSub, ↓reduceIte, Int.reduceEq, Int.reduceNe, Nat.reduceLeDiff, one, Value.cells, Int.reduceLE, Int.reduceLT, Int.reduceToNat, add_mk, reduceCtorEq, List.mem_range'_1, true_and, and_true, and_false, false_and, Nat.reduceLT, Nat.reduceLeDiff, tyF, h, hf]
    refine call_ok Tryz.call116 (cur_u16 w3 _ q _ hI3 (Nat.le_trans (InM.take_rest _ _) hl)) ?_
    rintro _ w4 ⟨rfl, hI4, hb4⟩
    simp (config := {maxSteps := 1000000, implicitDefEqProofs := false}) only [↓zvD, zvU, ↓up_apply, ↓hv_apply, ↓upO_some, ↓upO_none, ↓ev_tmp, ↓ev_const, ↓ev_func, ↓ev_global, init, Nat.reduceEqDiff, Nat.reduceAdd, Nat.reduceMul, Nat.reduceSub, ↓reduceIte, Int.reduceEq, Int.reduceNe, Nat.reduceLeDiff, one, Value.cells, Int.reduceLE, Int.reduceLT, Int.reduceToNat, add_mk, reduceCtorEq, List.mem_range'_1, true_and, and_true, and_false, false_and, Nat.reduceLT, Nat.reduceLeDiff, tyF, h, hf]
    refine call_ok Tryz.call82 (cur_bad w4 _ q _ hI4) ?_
    rintro _ w5 ⟨rfl, rfl⟩
    have hm5 : More w w5 := more_but (hm1.trans hm2) (hb3.trans hb4) (by omega)
    rcases Nat.lt_or_ge n.body.length 2 with h5 | h5
    · rw [take2_short h5, take_bad]
      simp (config := {maxSteps := 1000000, implicitDefEqProofs := false}) only [↓zvD, zvU, ↓up_apply, ↓hv_apply, ↓upO_some, ↓upO_none, ↓ev_tmp, ↓ev_const, ↓ev_func, ↓ev_global, init, Nat.reduceEqDiff, Nat.reduceAdd, Nat.reduceMul, Nat.reduceSub, ↓reduceIte, Int.reduceEq, Int.reduceNe, Nat.reduceLeDiff, one, Value.cells, Int.reduceLE, Int.reduceLT, Int.reduceToNat, add_mk, reduceCtorEq, List.mem_range'_1, true_and, and_true, and_false, false_and, Nat.reduceLT, Nat.reduceLeDiff, tyF]
      unfold PortsR
      simp [portsM, twoPorts, onePort, h, hf, show n.body.length < 4 by omega, hm5, be_nil]
    · rw [take2_ok h5]
      rcases Nat.lt_or_ge n.body.length 4 with h6 | h6
      · rw [take2_short (by rw [List.length_drop]; omega)]
        simp (config := {maxSteps := 1000000, implicitDefEqProofs := false}) only [↓zvD, zvU, ↓up_apply, ↓hv_apply, ↓upO_some, ↓upO_none, ↓ev_tmp, ↓ev_const, ↓ev_func, ↓ev_global, init, Nat.reduceEqDiff, Nat.reduceAdd, Nat.reduceMul, Nat.reduceSub, ↓reduceIte, Int.reduceEq, Int.reduceNe, Nat.reduceLeDiff, one, Value.cells, Int.reduceLE, Int.reduceLT, Int.reduceToNat, add_mk, reduceCtorEq, List.mem_range'_1, true_and, and_true, and_false, false_and, Nat.reduceLT, Nat.reduceLeDiff, tyF]
        unfold PortsR
        simp [portsM, twoPorts, onePort, h, hf, h6, hm5]
      · rw [take2_ok (by rw [List.length_drop]; omega)]
        simp (config := {maxSteps := 1000000, implicitDefEqProofs := false}) only [↓zvD, zvU, ↓up_apply, ↓hv_apply, ↓upO_some, ↓upO_none, ↓ev_tmp, ↓ev_const, ↓ev_func, ↓ev_global, init, Nat.reduceEqDiff, Nat.reduceAdd, Nat.reduceMul, Nat.reduceSub, ↓reduceIte, Int.reduceEq, Int.reduceNe, Nat.reduceLeDiff, one, Value.cells, Int.reduceLE, Int.reduceLT, Int.reduceToNat, add_mk, reduceCtorEq, List.mem_range'_1, true_and, and_true, and_false, false_and, Nat.reduceLT, Nat.reduceLeDiff, tyF]
        unfold PortsR
        rw [be_two _ h5, be_two _ (by rw [List.length_drop]; omega), two_drop]
        simp [portsM, twoPorts, onePort, h, hf, show ¬ n.body.length < 4 by omega, hm5]
  · simp (config := {maxSteps := 1000000, implicitDefEqProofs := false}) only [↓zvD, zvU, ↓up_apply, ↓hv_apply, ↓upO_some, ↓upO_none, ↓ev_tmp, ↓ev_const, ↓ev_func, ↓ev_global, init, Nat.reduceEqDiff, Nat.reduceAdd, Nat.reduceMul, Nat.reduceSub, ↓reduceIte, Int.reduceEq, Int.reduceNe, Nat.reduceLeDiff, one, Value.cells, Int.reduceLE, Int.reduceLT, Int.reduceToNat, add_mk, reduceCtorEq, List.mem_range'_1, true_and, and_true, and_false, false_and, Nat.reduceLT, Nat.reduceLeDiff, tyF, hb1.cell, NetM.c0, NetM.cBody hn, NetM.cFirst hn, h, hf]
    refine start _ fun q w2 hq hI2 hm2 => ?_
    simp (config := {maxSteps := 1000000, implicitDefEqProofs := false}) only [↓zvD, zvU, ↓up_apply, ↓hv_apply, ↓upO_some, ↓upO_none, ↓ev_tmp, ↓ev_const, ↓ev_func, ↓ev_global, init, Nat.reduceEqDiff, Nat.reduceAdd, Nat.reduceMul, Nat.reduceSub, ↓reduceIte, Int.reduceEq, Int.reduceNe, Nat.reduceLeDiff, one, Value.cells, Int.reduceLE, Int.reduceLT, Int.reduceToNat, add_mk, reduceCtorEq, List.mem_range'_1, true_and, and_true, and_false, false_and, Nat.reduceLT, Nat.reduceLeDiff, tyF, h, hf]
    refine call_ok Tryz.call116 (cur_u16 w2 _ q _ hI2 hl) ?_
    rintro _ w3 ⟨rfl, hI3, hb3⟩
    simp (config := {maxSteps := 1000000, implicitDefEqProofs := false}) only [↓zvD, zvU, ↓up_apply, ↓hv_apply, ↓upO_some, ↓upO_none, ↓ev_tmp, ↓ev_const, ↓ev_func, ↓ev_global, init, Nat.reduceEqDiff, Nat.reduceAdd, Nat.reduceMul, Nat.reduceSub, ↓reduceIte, Int.reduceEq, Int.reduceNe, Nat.reduceLeDiff, one, Value.cells, Int.reduceLE, Int.reduceLT, Int.reduceToNat, add_mk, reduceCtorEq, List.mem_range'_1, true_and, and_true, and_false, false_and, Nat.reduceLT, Nat.reduceLeDiff, tyF, h, hf]
    refine call_ok Tryz.call82 (cur_bad w3 _ q _ hI3) ?_
    rintro _ w4 ⟨rfl, rfl⟩
    have hm4 : More w w4 := more_but (hm1.trans hm2) hb3 (by omega)
    rcases Nat.lt_or_ge n.body.length 2 with h5 | h5
    · rw [take2_short h5]
      simp (config := {maxSteps := 1000000, implicitDefEqProofs := false}) only [↓zvD, zvU, ↓up_apply, ↓hv_apply, ↓upO_some, ↓upO_none, ↓ev_tmp, ↓ev_const, ↓ev_func, ↓ev_global, init, Nat.reduceEqDiff, Nat.reduceAdd, Nat.reduceMul, Nat.reduceSub, ↓reduceIte, Int.reduceEq, Int.reduceNe, Nat.reduceLeDiff, one, Value.cells, Int.reduceLE, Int.reduceLT, Int.reduceToNat, add_mk, reduceCtorEq, List.mem_range'_1, true_and, and_true, and_false, false_and, Nat.reduceLT, Nat.reduceLeDiff, tyF]
      unfold PortsR
      simp [portsM, twoPorts, onePort, h, hf, h5, hm4, be_nil]
    · rw [take2_ok h5]
      simp (config := {maxSteps := 1000000, implicitDefEqProofs := false}) only [↓zvD, zvU, ↓up_apply, ↓hv_apply, ↓upO_some, ↓upO_none, ↓ev_tmp, ↓ev_const, ↓ev_func, ↓ev_global, init, Nat.reduceEqDiff, Nat.reduceAdd, Nat.reduceMul, Nat.reduceSub, ↓reduceIte, Int.reduceEq, Int.reduceNe, Nat.reduceLeDiff, one, Value.cells, Int.reduceLE, Int.reduceLT, Int.reduceToNat, add_mk, reduceCtorEq, List.mem_range'_1, true_and, and_true, and_false, false_and, Nat.reduceLT, Nat.reduceLeDiff, tyF]
      unfold PortsR
      rw [be_two _ h5]
      simp [portsM, twoPorts, onePort, h, hf, show ¬ n.body.length < 2 by omega, hm4]
  · simp (config := {maxSteps := 1000000, implicitDefEqProofs := false}) only [↓zvD, zvU, ↓up_apply, ↓hv_apply, ↓upO_some, ↓upO_none, ↓ev_tmp, ↓ev_const, ↓ev_func, ↓ev_global, init, Nat.reduceEqDiff, Nat.reduceAdd, Nat.reduceMul, Nat.reduceSub, ↓reduceIte, Int.reduceEq, Int.reduceNe, Nat.reduceLeDiff, one, Value.cells, Int.reduceLE, Int.reduceLT, Int.reduceToNat, add_mk, reduceCtorEq, List.mem_range'_1, true_and, and_true, and_false, false_and, Nat.reduceLT, Nat.reduceLeDiff, tyF, hb1.cell, NetM.c0, NetM.cBody hn, NetM.cFirst hn, h, hf]
    refine start _ fun q w2 hq hI2 hm2 => ?_
    simp (config := {maxSteps := 1000000, implicitDefEqProofs := false}) only [↓zvD, zvU, ↓up_apply, ↓hv_apply, ↓upO_some, ↓upO_none, ↓ev_tmp, ↓ev_const, ↓ev_func, ↓ev_global, init, Nat.reduceEqDiff, Nat.reduceAdd, Nat.reduceMul, Nat.reduceSub, ↓reduceIte, Int.reduceEq, Int.reduceNe, Nat.reduceLeDiff, one, Value.cells, Int.reduceLE, Int.reduceLT, Int.reduceToNat, add_mk, reduceCtorEq, List.mem_range'_1, true_and, and_true, and_false, false_and, Nat.reduceLT, Nat.reduceLeDiff, tyF, h, hf]
    refine call_ok Tryz.call116 (cur_u16 w2 _ q _ hI2 hl) ?_
    rintro _ w3 ⟨rfl, hI3, hb3⟩
    simp (config := {maxSteps := 1000000, implicitDefEqProofs := false}) only [↓zvD, zvU, ↓up_apply, ↓hv_apply, ↓upO_some, ↓upO_none, ↓ev_tmp, ↓ev_const, ↓ev_func, ↓ev_global, init, Nat.reduceEqDiff, Nat.reduceAdd, Nat.reduceMul, Nat.reduceSub, ↓reduceIte, Int.reduceEq, Int.reduceNe, Nat.reduceLeDiff, one, Value.cells, Int.reduceLE, Int.reduceLT, Int.reduceToNat, add_mk, reduceCtorEq, List.mem_range'_1, true_and, and_true, and_false, false_and, Nat.reduceLT, Nat.reduceLeDiff, tyF, h, hf]
    refine call_ok Tryz.call82 (cur_bad w3 _ q _ hI3) ?_
    rintro _ w4 ⟨rfl, rfl⟩
    have hm4 : More w w4 := more_but (hm1.trans hm2) hb3 (by omega)
    rcases Nat.lt_or_ge n.body.length 2 with h5 | h5
    · rw [take2_short h5]
      simp (config := {maxSteps := 1000000, implicitDefEqProofs := false}) only [↓zvD, zvU, ↓up_apply, ↓hv_apply, ↓upO_some, ↓upO_none, ↓ev_tmp, ↓ev_const, ↓ev_func, ↓ev_global, init, Nat.reduceEqDiff, Nat.reduceAdd, Nat.reduceMul, Nat.reduceSub, ↓reduceIte, Int.reduceEq, Int.reduceNe, Nat.reduceLeDiff, one, Value.cells, Int.reduceLE, Int.reduceLT, Int.reduceToNat, add_mk, reduceCtorEq, List.mem_range'_1, true_and, and_true, and_false, false_and, Nat.reduceLT, Nat.reduceLeDiff, tyF]
      unfold PortsR
      simp [portsM, twoPorts, onePort, h, hf, h5, hm4, be_nil]
    · rw [take2_ok h5]
      simp (config := {maxSteps := 1000000, implicitDefEqProofs := false}) only [↓zvD, zvU, ↓up_apply, ↓hv_apply, ↓upO_some, ↓upO_none, ↓ev_tmp, ↓ev_const, ↓ev_func, ↓ev_global, init, Nat.reduceEqDiff, Nat.reduceAdd, Nat.reduceMul, Nat.reduceSub, ↓reduceIte, Int.reduceEq, Int.reduceNe, Nat.reduceLeDiff, one, Value.cells, Int.reduceLE, Int.reduceLT, Int.reduceToNat, add_mk, reduceCtorEq, List.mem_range'_1, true_and, and_true, and_false, false_and, Nat.reduceLT, Nat.reduceLeDiff, tyF]
      unfold PortsR
      rw [be_two _ h5]
      simp [portsM, twoPorts, onePort, h, hf, show ¬ n.body.length < 2 by omega, hm4]
  · simp (config := {maxSteps := 1000000, implicitDefEqProofs := false}) only [↓zvD, zvU, ↓up_apply, ↓hv_apply, ↓upO_some, ↓upO_none, ↓ev_tmp, ↓ev_const, ↓ev_func, ↓ev_global, init, Nat.reduceEqDiff, Nat.reduceAdd, Nat.reduceMul, Nat.reduceSub, ↓reduceIte, Int.reduceEq, Int.reduceNe, Nat.reduceLeDiff, one, Value.cells, Int.reduceLE, Int.reduceLT, Int.reduceToNat, add_mk, reduceCtorEq, List.mem_range'_1, true_and, and_true, and_false, false_and, Nat.reduceLT, Nat.reduceLeDiff, tyF, hb1.cell, NetM.c0, NetM.cBody hn, NetM.cFirst hn, h1, h2, h3, hf]
    refine ⟨?_, hm1⟩
    simp [portsM, twoPorts, onePort, h1, h2, h3, hf]
  · simp (config := {maxSteps := 1000000, implicitDefEqProofs := false}) only [↓zvD, zvU, ↓up_apply, ↓hv_apply, ↓upO_some, ↓upO_none, ↓ev_tmp, ↓ev_const, ↓ev_func, ↓ev_global, init, Nat.reduceEqDiff, Nat.reduceAdd, Nat.reduceMul, Nat.reduceSub, ↓reduceIte, Int.reduceEq, Int.reduceNe, Nat.reduceLeDiff, one, Value.cells, Int.reduceLE, Int.reduceLT, Int.reduceToNat, add_mk, reduceCtorEq, List.mem_range'_1, true_and, and_true, and_false, false_and, Nat.reduceLT, Nat.reduceLeDiff, tyF, hb1.cell, NetM.c0, NetM.cBody hn, NetM.cFirst hn, h1, h2, h3, hf]
    refine ⟨?_, hm1⟩
    simp [portsM, twoPorts, onePort, h1, h2, h3, hf]
end Go.Proofs.YtahcaplhdgphcaaGreat
