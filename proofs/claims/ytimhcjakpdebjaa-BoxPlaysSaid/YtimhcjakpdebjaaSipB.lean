/-
  Layer 7: the sum.
-/
import Derived.Test.YtimhcjakpdebjaaSip
import Derived.Test.YtimhcjakpdebjaaBut
namespace Go.Proofs.Ytimhcjakpdebjaa
open Go Go.RowKit Go.Proofs.RV
set_option linter.unusedSimpArgs false
set_option linter.unusedVariables false
set_option maxRecDepth 10000
set_option maxHeartbeats 4000000
/-- what comes behind a region gets a name -/
theorem ops_name {P : Program} {ops : Array Oper} {r : List Oper} {e : Env} {w : World} {K : Env → World → Prop} (h : ∀ K' : Env → World → Prop, (∀ e w, K e w → K' e w) → opsP P ops r e w (Stop K' .mk)) : opsP P ops r e w (Stop K .mk) := h K fun _ _ h => h
/-- the number of bytes, the lowest first -/
def numT (l : List UInt8) : Nat → Int
  | 0 => 0
  | k + 1 => orM (numT l k) (IntKind.u64.wrap (bt l k * 2 ^ min (8 * k) 64))
def NumTJ (l : List UInt8) (w : World) (v3 v8 : Value) (w' : World) : Prop := ∃ k : Nat, v8 = .int .i64 k ∧ k ≤ l.length ∧ v3 = .int .u64 (numT l k) ∧ More w w'
theorem sip_number (w : World) (A : Option Addr) (l : List UInt8) (c : Nat) (hA : Bs w A l) (hl : l.length ≤ 100) :
    Ret Try.prog 73 #[.slice A l.length c] w fun v w' => v = .int .u64 (numT l l.length) ∧ More w w' := by
  refine ret_of Try.func73 rfl (by kernel_rfl) (Nat.le_of_ble_eq_true (by kernel_rfl)) ?_
  simp (config := {maxSteps := 1000000}) only [↓zvN, zvU, ↓up_apply, ↓hv_apply, ↓upO_some, ↓upO_none, ↓ev_tmp, ↓ev_const, ↓ev_func, ↓ev_global, init, Nat.reduceEqDiff, Nat.reduceAdd, Nat.reduceMul, Nat.reduceSub, ↓reduceIte, Int.reduceEq, Int.reduceNe, Nat.reduceLeDiff, one, Value.cells, Int.reduceLE, Int.reduceLT, Int.reduceToNat, add_mk, reduceCtorEq, List.mem_range'_1, true_and, and_true, and_false, false_and, Nat.reduceLT, Nat.reduceLeDiff, tyF]
  refine loop_p (3 :: 4 :: 5 :: List.range' 8 14) (fun e w' => NumTJ l w (e 3) (e 8) w') (fun e _ => l.length - (numOf (e 8)).toNat) ?_ ?_
  · exact ⟨0, by simp only [hv_apply, up_apply, upO_some, upO_none, init, List.mem_cons, List.mem_range'_1, true_and, and_true, and_false, false_and, Nat.reduceLT, Nat.reduceLeDiff, Nat.reduceAdd, true_or, or_true, if_true, if_false, ↓reduceIte, Nat.reduceEqDiff, false_or, or_false, List.not_mem_nil, List.getElem?_cons_zero, List.getElem?_cons_succ, Option.getD_some] <;> rfl, by omega, by simp only [hv_apply, up_apply, upO_some, upO_none, init, List.mem_cons, List.mem_range'_1, true_and, and_true, and_false, false_and, Nat.reduceLT, Nat.reduceLeDiff, Nat.reduceAdd, true_or, or_true, if_true, if_false, ↓reduceIte, Nat.reduceEqDiff, false_or, or_false, List.not_mem_nil, List.getElem?_cons_zero, List.getElem?_cons_succ, Option.getD_some] <;> rfl, More.refl _⟩
  rintro v w1 ⟨k, h8, hk, h3, hm1⟩
  simp only [hv_apply, up_apply, upO_some, upO_none, init, List.mem_cons, List.mem_range'_1, true_and, and_true, and_false, false_and, Nat.reduceLT, Nat.reduceLeDiff, Nat.reduceAdd, true_or, or_true, if_true, if_false, ↓reduceIte, Nat.reduceEqDiff, false_or, or_false, List.not_mem_nil, List.getElem?_cons_zero, List.getElem?_cons_succ, Option.getD_some] at h8 h3
  have ek : IntKind.i64.wrap ((k : Int) + 1) = ((k + 1 : Nat) : Int) := w64 (by omega) (by omega)
  have e8 : IntKind.i64.wrap (8 * (k : Int)) = ((8 * k : Nat) : Int) := by rw [show (8 : Int) * (k : Int) = ((8 * k : Nat) : Int) by omega]; exact w64 (by omega) (by omega)
  simp (config := {maxSteps := 1000000}) only [↓zvN, zvU, ↓up_apply, ↓hv_apply, ↓upO_some, ↓upO_none, ↓ev_tmp, ↓ev_const, ↓ev_func, ↓ev_global, init, Nat.reduceEqDiff, Nat.reduceAdd, Nat.reduceMul, Nat.reduceSub, ↓reduceIte, Int.reduceEq, Int.reduceNe, Nat.reduceLeDiff, one, Value.cells, Int.reduceLE, Int.reduceLT, Int.reduceToNat, add_mk, reduceCtorEq, List.mem_range'_1, true_and, and_true, and_false, false_and, Nat.reduceLT, Nat.reduceLeDiff, tyF, h8, h3]
  refine ⟨fun h9 => ?_, fun h9 => ?_⟩
  rotate_left
  · obtain rfl : k = l.length := by omega
    exact ⟨rfl, hm1⟩
  have hk1 : k < l.length := by omega
  obtain ⟨a, rfl⟩ := hA.isAt (by omega)
  have hc := (hA.more hm1).cellN hk1
  have g0 : (0 : Int) ≤ (k : Int) := by omega
  have g1 : (0 : Int) ≤ ((8 * k : Nat) : Int) := by omega
  have eb : IntKind.u64.wrap (bt l k) = bt l k := by have := bt_nonneg l k; have := bt_lt l k; exact wu64 (by omega) (by omega)
  have hs : numT l (k + 1) = bits .or .u64 (numT l k) (IntKind.u64.wrap (bt l k * 2 ^ min (8 * k) IntKind.u64.bits)) := rfl
  generalize bt l k = x at hc eb hs
  generalize numT l k = y at h3 hs
  simp (config := {maxSteps := 1000000}) only [↓zvN, zvU, ↓up_apply, ↓hv_apply, ↓upO_some, ↓upO_none, ↓ev_tmp, ↓ev_const, ↓ev_func, ↓ev_global, init, Nat.reduceEqDiff, Nat.reduceAdd, Nat.reduceMul, Nat.reduceSub, ↓reduceIte, Int.reduceEq, Int.reduceNe, Nat.reduceLeDiff, one, Value.cells, Int.reduceLE, Int.reduceLT, Int.reduceToNat, add_mk, reduceCtorEq, List.mem_range'_1, true_and, and_true, and_false, false_and, Nat.reduceLT, Nat.reduceLeDiff, tyF, h8, h3, hc, g0, g1, h9, e8, eb, ek, Int.toNat_natCast]
  refine ⟨⟨?_, k + 1, rfl, by omega, by rw [hs], hm1⟩, by simp only [numOf]; omega⟩
  repeat (first | exact Same.hv _ _ _ | refine Same.up (by simp) ?_)
def S4.word (s : S4) (m : Int) : S4 :=
  let t := S4.rounds 2 { s with d := xorM s.d m }
  { t with a := xorM t.a m }
theorem sip_word (w : World) (q : Nat) (s : S4) (m : Int) (hb : Blk w q 145 s.cells) :
    Ret Try.prog 75 #[.pointer (some ⟨q, 0, none⟩), .int .u64 m] w fun v w' => v = .tuple #[] ∧ Blk w' q 145 (s.word m).cells ∧ But q w w' := by
  refine ret_of Try.func75 rfl (by kernel_rfl) (Nat.le_of_ble_eq_true (by kernel_rfl)) ?_
  have cd := hb.cell 3
  simp only [S4.cells, List.getElem?_cons_zero, List.getElem?_cons_succ] at cd
  simp (config := {maxSteps := 1000000}) only [↓zvN, zvU, ↓up_apply, ↓hv_apply, ↓upO_some, ↓upO_none, ↓ev_tmp, ↓ev_const, ↓ev_func, ↓ev_global, init, Nat.reduceEqDiff, Nat.reduceAdd, Nat.reduceMul, Nat.reduceSub, ↓reduceIte, Int.reduceEq, Int.reduceNe, Nat.reduceLeDiff, one, Value.cells, Int.reduceLE, Int.reduceLT, Int.reduceToNat, add_mk, reduceCtorEq, List.mem_range'_1, true_and, and_true, and_false, false_and, Nat.reduceLT, Nat.reduceLeDiff, tyF, cd]
  refine st_cell hb (by simp [S4.cells]) rfl fun w1 j1 j2 => ?_
  rw [s2_undef]
  replace j2 : Blk w1 q 145 (S4.mk s.a s.b s.c (xorM s.d m)).cells := j2
  simp (config := {maxSteps := 1000000}) only [↓zvN, zvU, ↓up_apply, ↓hv_apply, ↓upO_some, ↓upO_none, ↓ev_tmp, ↓ev_const, ↓ev_func, ↓ev_global, init, Nat.reduceEqDiff, Nat.reduceAdd, Nat.reduceMul, Nat.reduceSub, ↓reduceIte, Int.reduceEq, Int.reduceNe, Nat.reduceLeDiff, one, Value.cells, Int.reduceLE, Int.reduceLT, Int.reduceToNat, add_mk, reduceCtorEq, List.mem_range'_1, true_and, and_true, and_false, false_and, Nat.reduceLT, Nat.reduceLeDiff, tyF]
  refine call_ok Try.call76 (sip_round w1 q _ 2 j2 (by omega)) ?_
  rintro _ w2 ⟨rfl, h2, b2⟩
  have hw : s.word m = { S4.rounds 2 (S4.mk s.a s.b s.c (xorM s.d m)) with a := xorM (S4.rounds 2 (S4.mk s.a s.b s.c (xorM s.d m))).a m } := rfl
  generalize S4.rounds 2 (S4.mk s.a s.b s.c (xorM s.d m)) = t at *
  have ca := h2.cell 0
  simp only [S4.cells, List.getElem?_cons_zero, List.getElem?_cons_succ] at ca
  simp (config := {maxSteps := 1000000}) only [↓zvN, zvU, ↓up_apply, ↓hv_apply, ↓upO_some, ↓upO_none, ↓ev_tmp, ↓ev_const, ↓ev_func, ↓ev_global, init, Nat.reduceEqDiff, Nat.reduceAdd, Nat.reduceMul, Nat.reduceSub, ↓reduceIte, Int.reduceEq, Int.reduceNe, Nat.reduceLeDiff, one, Value.cells, Int.reduceLE, Int.reduceLT, Int.reduceToNat, add_mk, reduceCtorEq, List.mem_range'_1, true_and, and_true, and_false, false_and, Nat.reduceLT, Nat.reduceLeDiff, tyF, ca]
  refine st_cell h2 (by simp [S4.cells]) rfl fun w3 i1 i2 => ?_
  rw [s2_undef]
  simp (config := {maxSteps := 1000000}) only [↓zvN, zvU, ↓up_apply, ↓hv_apply, ↓upO_some, ↓upO_none, ↓ev_tmp, ↓ev_const, ↓ev_func, ↓ev_global, init, Nat.reduceEqDiff, Nat.reduceAdd, Nat.reduceMul, Nat.reduceSub, ↓reduceIte, Int.reduceEq, Int.reduceNe, Nat.reduceLeDiff, one, Value.cells, Int.reduceLE, Int.reduceLT, Int.reduceToNat, add_mk, reduceCtorEq, List.mem_range'_1, true_and, and_true, and_false, false_and, Nat.reduceLT, Nat.reduceLeDiff, tyF]
  refine ⟨?_, ((But.of_wr j1).trans b2).trans (But.of_wr i1)⟩
  rw [hw]
  exact i2
/-- a row that is grown ahead of what is put into it -/
theorem slices_grow0 (w : World) (n : Nat) (hn : n ≤ 100000) :
    Ret Try.prog 89 #[.slice none 0 0, .int .i64 n] w fun v w' => ∃ A c, v = .slice A 0 c ∧ Own w' w.heap.size 5 1 A 0 c [] ∧ More w w' := by
  refine ret_of Try.func89 rfl (by kernel_rfl) (Nat.le_of_ble_eq_true (by kernel_rfl)) ?_
  have g0 : ¬ (n : Int) < 0 := by omega
  have e1 : IntKind.i64.wrap ((n : Int) - 0) = (n : Int) := by rw [Int.sub_zero]; exact w64 (by omega) (by omega)
  have e0 : IntKind.i64.wrap (0 - 0 : Int) = 0 := rfl
  simp (config := {maxSteps := 1000000}) only [↓zvN, zvU, ↓up_apply, ↓hv_apply, ↓upO_some, ↓upO_none, ↓ev_tmp, ↓ev_const, ↓ev_func, ↓ev_global, init, Nat.reduceEqDiff, Nat.reduceAdd, Nat.reduceMul, Nat.reduceSub, ↓reduceIte, Int.reduceEq, Int.reduceNe, Nat.reduceLeDiff, one, Value.cells, Int.reduceLE, Int.reduceLT, Int.reduceToNat, add_mk, reduceCtorEq, List.mem_range'_1, true_and, and_true, and_false, false_and, Nat.reduceLT, Nat.reduceLeDiff, tyF, g0, e0, e1]
  refine ⟨fun h => ?_, fun h => ⟨none, 0, rfl, Own.nil _ _ _ _, More.refl _⟩⟩
  obtain ⟨i, hi, hz, hs, hby⟩ := info_parts byteE
  have hG := grownCap_ge w (0 + n) 0 5
  have hr := Lib.run_append_grow_zeros (P := Try.prog) w 87 3 87 5 i (.int .u8 0) .i64 .i64 Try.underlying87 Try.underlying3 hi hz none 0 0 [] (run_firstCells_none _ _ _ _ _) n (by omega) (by omega) (by omega) (by omega) (by rw [hby]; omega)
    (by rw [hby, nextslicecap_zero (by omega)]; omega)
  rw [runP_eq hr]
  have hcm : grownCap w (0 + n) 0 5 ≤ maxLen := grownCap_le_maxLen w (0 + n) 0 _ (by simp only [maxLen]; omega)
  have hg0 : (0 : Int) ≤ 0 := by omega
  have hb := heap_alloc_new w.drew (.cells (([] : List Value).toArray ++ Builtin.zeroCells (Value.int .u8 0).cells n ++ Builtin.zeroCells (Value.int .u8 0).cells (grownCap w (0 + n) 0 5 - (0 + n))) 5)
  have hmm : More w (w.drew.alloc (.cells (([] : List Value).toArray ++ Builtin.zeroCells (Value.int .u8 0).cells n ++ Builtin.zeroCells (Value.int .u8 0).cells (grownCap w (0 + n) 0 5 - (0 + n))) 5)) :=
    ⟨rfl, rfl, rfl, by simp, fun k hk => heap_alloc_old w.drew _ (by simpa using hk)⟩
  have hcs : (([] : List Value).toArray ++ Builtin.zeroCells (Value.int .u8 0).cells n ++ Builtin.zeroCells (Value.int .u8 0).cells (grownCap w (0 + n) 0 5 - (0 + n))).size = grownCap w (0 + n) 0 5 := by
    simp only [Array.size_append, List.size_toArray, size_zeroCells, List.length_nil]
    have : (Value.int .u8 0).cells.size = 1 := rfl
    rw [this]
    omega
  generalize (([] : List Value).toArray ++ Builtin.zeroCells (Value.int .u8 0).cells n ++ Builtin.zeroCells (Value.int .u8 0).cells (grownCap w (0 + n) 0 5 - (0 + n))) = cs at *
  generalize grownCap w (0 + n) 0 5 = G at *
  generalize w.drew.alloc (.cells cs 5) = w1 at *
  simp (config := {maxSteps := 1000000}) only [↓zvN, zvU, ↓up_apply, ↓hv_apply, ↓upO_some, ↓upO_none, ↓ev_tmp, ↓ev_const, ↓ev_func, ↓ev_global, init, Nat.reduceEqDiff, Nat.reduceAdd, Nat.reduceMul, Nat.reduceSub, ↓reduceIte, Int.reduceEq, Int.reduceNe, Nat.reduceLeDiff, one, Value.cells, Int.reduceLE, Int.reduceLT, Int.reduceToNat, add_mk, reduceCtorEq, List.mem_range'_1, true_and, and_true, and_false, false_and, Nat.reduceLT, Nat.reduceLeDiff, tyF]
  refine ⟨Nat.zero_le _, _, G, rfl, ⟨by simp, .inr ⟨w.heap.size, G, cs, rfl, Nat.le_refl _, hb, by omega, hcm, by rw [hcs, Nat.mul_one], by simp⟩⟩, hmm⟩
structure PartM where
  A : Option Addr
  l : List UInt8
  c : Nat
def PartM.cell (p : PartM) : Value := .slice p.A p.l.length p.c
def joinP (ps : List PartM) : List UInt8 := ps.flatMap PartM.l
theorem join_take {ps : List PartM} {k : Nat} {p : PartM} (h : ps[k]? = some p) : joinP (ps.take (k + 1)) = joinP (ps.take k) ++ p.l := by
  rw [List.take_add_one, h]
  simp [joinP]
theorem join_le (ps : List PartM) (k : Nat) : (joinP (ps.take k)).length ≤ (joinP ps).length := by
  have := congrArg (fun l => (joinP l).length) (List.take_append_drop k ps)
  simp only [joinP, List.flatMap_append, List.length_append] at this ⊢
  omega
def ConJ (ps : List PartM) (w : World) (v3 v11 : Value) (w' : World) : Prop := ∃ k : Nat, v11 = .int .i64 k ∧ k ≤ ps.length ∧ v3 = .int .i64 (joinP (ps.take k)).length ∧ w' = w
def ConK (ps : List PartM) (w : World) (v6 v27 : Value) (w' : World) : Prop :=
  ∃ (k : Nat) (A : Option Addr) (c : Nat), v27 = .int .i64 k ∧ k ≤ ps.length ∧ v6 = .slice A (joinP (ps.take k)).length c ∧ Own w' w.heap.size 5 1 A (joinP (ps.take k)).length c ((joinP (ps.take k)).map byteV) ∧ More w w'
theorem slices_concat (w : World) (A : Option Addr) (ps : List PartM) (c : Nat) (hA : Cs w A (ps.map PartM.cell)) (hB : ∀ p ∈ ps, Bs w p.A p.l) (hl : (joinP ps).length ≤ 100000) (hps : ps.length ≤ 1000) :
    Ret Try.prog 74 #[.slice A ps.length c] w fun v w' => ∃ A' c', v = .slice A' (joinP ps).length c' ∧ Own w' w.heap.size 5 1 A' (joinP ps).length c' ((joinP ps).map byteV) ∧ More w w' := by
  refine ret_of Try.func74 rfl (by kernel_rfl) (Nat.le_of_ble_eq_true (by kernel_rfl)) ?_
  simp (config := {maxSteps := 1000000}) only [↓zvN, zvU, ↓up_apply, ↓hv_apply, ↓upO_some, ↓upO_none, ↓ev_tmp, ↓ev_const, ↓ev_func, ↓ev_global, init, Nat.reduceEqDiff, Nat.reduceAdd, Nat.reduceMul, Nat.reduceSub, ↓reduceIte, Int.reduceEq, Int.reduceNe, Nat.reduceLeDiff, one, Value.cells, Int.reduceLE, Int.reduceLT, Int.reduceToNat, add_mk, reduceCtorEq, List.mem_range'_1, true_and, and_true, and_false, false_and, Nat.reduceLT, Nat.reduceLeDiff, tyF]
  refine loop_p (3 :: 5 :: List.range' 11 12) (fun e w' => ConJ ps w (e 3) (e 11) w') (fun e _ => ps.length - (numOf (e 11)).toNat) ?_ ?_
  · exact ⟨0, by simp only [hv_apply, up_apply, upO_some, upO_none, init, List.mem_cons, List.mem_range'_1, true_and, and_true, and_false, false_and, Nat.reduceLT, Nat.reduceLeDiff, Nat.reduceAdd, true_or, or_true, if_true, if_false, ↓reduceIte, Nat.reduceEqDiff, false_or, or_false, List.not_mem_nil, List.getElem?_cons_zero, List.getElem?_cons_succ, Option.getD_some] <;> rfl, by omega, by simp only [hv_apply, up_apply, upO_some, upO_none, init, List.mem_cons, List.mem_range'_1, true_and, and_true, and_false, false_and, Nat.reduceLT, Nat.reduceLeDiff, Nat.reduceAdd, true_or, or_true, if_true, if_false, ↓reduceIte, Nat.reduceEqDiff, false_or, or_false, List.not_mem_nil, List.getElem?_cons_zero, List.getElem?_cons_succ, Option.getD_some] <;> rfl, rfl⟩
  rintro v w1 ⟨k, h11, hk, h3, rfl⟩
  simp only [hv_apply, up_apply, upO_some, upO_none, init, List.mem_cons, List.mem_range'_1, true_and, and_true, and_false, false_and, Nat.reduceLT, Nat.reduceLeDiff, Nat.reduceAdd, true_or, or_true, if_true, if_false, ↓reduceIte, Nat.reduceEqDiff, false_or, or_false, List.not_mem_nil, List.getElem?_cons_zero, List.getElem?_cons_succ, Option.getD_some] at h11 h3
  have ek : IntKind.i64.wrap ((k : Int) + 1) = ((k + 1 : Nat) : Int) := w64 (by omega) (by omega)
  have g0 : (0 : Int) ≤ (k : Int) := by omega
  simp (config := {maxSteps := 1000000}) only [↓zvN, zvU, ↓up_apply, ↓hv_apply, ↓upO_some, ↓upO_none, ↓ev_tmp, ↓ev_const, ↓ev_func, ↓ev_global, init, Nat.reduceEqDiff, Nat.reduceAdd, Nat.reduceMul, Nat.reduceSub, ↓reduceIte, Int.reduceEq, Int.reduceNe, Nat.reduceLeDiff, one, Value.cells, Int.reduceLE, Int.reduceLT, Int.reduceToNat, add_mk, reduceCtorEq, List.mem_range'_1, true_and, and_true, and_false, false_and, Nat.reduceLT, Nat.reduceLeDiff, tyF, h11, h3]
  refine ⟨fun h9 => ?_, fun h9 => ?_⟩
  · obtain ⟨p, hp⟩ : ∃ p, ps[k]? = some p := ⟨ps[k]'(by omega), by simp⟩
    have hle := join_le ps (k + 1)
    rw [join_take hp, List.length_append] at hle
    have hcell := hA k p.cell (by simp [hp])
    obtain ⟨a, rfl, hcell⟩ := hcell
    unfold PartM.cell at hcell
    have e2 : IntKind.i64.wrap (((joinP (ps.take k)).length : Int) + (p.l.length : Int)) = ((joinP (ps.take (k + 1))).length : Int) := by
      rw [join_take hp, List.length_append]
      exact w64 (by omega) (by omega)
    have g1 : ¬ ((joinP (ps.take (k + 1))).length : Int) < 0 := by omega
    simp (config := {maxSteps := 1000000}) only [↓zvN, zvU, ↓up_apply, ↓hv_apply, ↓upO_some, ↓upO_none, ↓ev_tmp, ↓ev_const, ↓ev_func, ↓ev_global, init, Nat.reduceEqDiff, Nat.reduceAdd, Nat.reduceMul, Nat.reduceSub, ↓reduceIte, Int.reduceEq, Int.reduceNe, Nat.reduceLeDiff, one, Value.cells, Int.reduceLE, Int.reduceLT, Int.reduceToNat, add_mk, reduceCtorEq, List.mem_range'_1, true_and, and_true, and_false, false_and, Nat.reduceLT, Nat.reduceLeDiff, tyF, h11, h3, g0, h9, hcell, e2, g1, ek, Int.toNat_natCast]
    refine ⟨⟨?_, k + 1, rfl, by omega, rfl, rfl⟩, by simp only [numOf]; omega⟩
    repeat (first | exact Same.hv _ _ _ | refine Same.up (by simp) ?_)
  obtain rfl : k = ps.length := by omega
  try simp only [List.take_length] at h3 ⊢
  refine call_ok Try.call89 (slices_grow0 w1 _ (by omega)) ?_
  rintro _ w2 ⟨A2, c2, rfl, ho2, hm2⟩
  simp (config := {maxSteps := 1000000}) only [↓zvN, zvU, ↓up_apply, ↓hv_apply, ↓upO_some, ↓upO_none, ↓ev_tmp, ↓ev_const, ↓ev_func, ↓ev_global, init, Nat.reduceEqDiff, Nat.reduceAdd, Nat.reduceMul, Nat.reduceSub, ↓reduceIte, Int.reduceEq, Int.reduceNe, Nat.reduceLeDiff, one, Value.cells, Int.reduceLE, Int.reduceLT, Int.reduceToNat, add_mk, reduceCtorEq, List.mem_range'_1, true_and, and_true, and_false, false_and, Nat.reduceLT, Nat.reduceLeDiff, tyF, h11, h3]
  refine loop_p (6 :: 8 :: List.range' 27 8) (fun e w' => ConK ps w1 (e 6) (e 27) w') (fun e _ => ps.length - (numOf (e 27)).toNat) ?_ ?_
  · exact ⟨0, A2, c2, by simp only [hv_apply, up_apply, upO_some, upO_none, init, List.mem_cons, List.mem_range'_1, true_and, and_true, and_false, false_and, Nat.reduceLT, Nat.reduceLeDiff, Nat.reduceAdd, true_or, or_true, if_true, if_false, ↓reduceIte, Nat.reduceEqDiff, false_or, or_false, List.not_mem_nil, List.getElem?_cons_zero, List.getElem?_cons_succ, Option.getD_some] <;> rfl, by omega, by simp only [hv_apply, up_apply, upO_some, upO_none, init, List.mem_cons, List.mem_range'_1, true_and, and_true, and_false, false_and, Nat.reduceLT, Nat.reduceLeDiff, Nat.reduceAdd, true_or, or_true, if_true, if_false, ↓reduceIte, Nat.reduceEqDiff, false_or, or_false, List.not_mem_nil, List.getElem?_cons_zero, List.getElem?_cons_succ, Option.getD_some] <;> rfl, ho2, hm2⟩
  rintro v' w3 ⟨k, A3, c3, h27, hk, h6, ho3, hm3⟩
  simp only [hv_apply, up_apply, upO_some, upO_none, init, List.mem_cons, List.mem_range'_1, true_and, and_true, and_false, false_and, Nat.reduceLT, Nat.reduceLeDiff, Nat.reduceAdd, true_or, or_true, if_true, if_false, ↓reduceIte, Nat.reduceEqDiff, false_or, or_false, List.not_mem_nil, List.getElem?_cons_zero, List.getElem?_cons_succ, Option.getD_some] at h27 h6
  have ek : IntKind.i64.wrap ((k : Int) + 1) = ((k + 1 : Nat) : Int) := w64 (by omega) (by omega)
  have g0 : (0 : Int) ≤ (k : Int) := by omega
  simp (config := {maxSteps := 1000000}) only [↓zvN, zvU, ↓up_apply, ↓hv_apply, ↓upO_some, ↓upO_none, ↓ev_tmp, ↓ev_const, ↓ev_func, ↓ev_global, init, Nat.reduceEqDiff, Nat.reduceAdd, Nat.reduceMul, Nat.reduceSub, ↓reduceIte, Int.reduceEq, Int.reduceNe, Nat.reduceLeDiff, one, Value.cells, Int.reduceLE, Int.reduceLT, Int.reduceToNat, add_mk, reduceCtorEq, List.mem_range'_1, true_and, and_true, and_false, false_and, Nat.reduceLT, Nat.reduceLeDiff, tyF, h27, h6]
  refine ⟨fun h9 => ?_, fun h9 => ?_⟩
  · obtain ⟨p, hp⟩ : ∃ p, ps[k]? = some p := ⟨ps[k]'(by omega), by simp⟩
    have hle := join_le ps (k + 1)
    rw [join_take hp, List.length_append] at hle
    have hcell := (hA.more hm3) k p.cell (by simp [hp])
    obtain ⟨a, rfl, hcell⟩ := hcell
    unfold PartM.cell at hcell
    simp (config := {maxSteps := 1000000}) only [↓zvN, zvU, ↓up_apply, ↓hv_apply, ↓upO_some, ↓upO_none, ↓ev_tmp, ↓ev_const, ↓ev_func, ↓ev_global, init, Nat.reduceEqDiff, Nat.reduceAdd, Nat.reduceMul, Nat.reduceSub, ↓reduceIte, Int.reduceEq, Int.reduceNe, Nat.reduceLeDiff, one, Value.cells, Int.reduceLE, Int.reduceLT, Int.reduceToNat, add_mk, reduceCtorEq, List.mem_range'_1, true_and, and_true, and_false, false_and, Nat.reduceLT, Nat.reduceLeDiff, tyF, h27, h6, g0, h9, hcell, Int.toNat_natCast]
    refine app_mod (m := p.l.length) Try.underlying87 byteE rfl (by omega) ho3 ((hB p (List.mem_of_getElem? hp)).more hm3) (by simp) (byteV_one _) (by simp only [maxLen]; omega) (by omega) hm3.size ?_
    intro A4 c4 w4 ho4 hmd4 _
    have hm4 := Mod.more hm3 hmd4 (fun x hx h => by have := ho3.atB_ge h; omega)
    simp (config := {maxSteps := 1000000}) only [↓zvN, zvU, ↓up_apply, ↓hv_apply, ↓upO_some, ↓upO_none, ↓ev_tmp, ↓ev_const, ↓ev_func, ↓ev_global, init, Nat.reduceEqDiff, Nat.reduceAdd, Nat.reduceMul, Nat.reduceSub, ↓reduceIte, Int.reduceEq, Int.reduceNe, Nat.reduceLeDiff, one, Value.cells, Int.reduceLE, Int.reduceLT, Int.reduceToNat, add_mk, reduceCtorEq, List.mem_range'_1, true_and, and_true, and_false, false_and, Nat.reduceLT, Nat.reduceLeDiff, tyF, h27, h6, ek]
    rw [← List.map_append, ← join_take hp, show (joinP (ps.take k)).length + p.l.length = (joinP (ps.take (k + 1))).length by rw [join_take hp, List.length_append]] at ho4
    rw [show (joinP (ps.take k)).length + p.l.length = (joinP (ps.take (k + 1))).length by rw [join_take hp, List.length_append]]
    refine ⟨⟨?_, k + 1, A4, c4, rfl, by omega, rfl, ho4, hm4⟩, by simp only [numOf]; omega⟩
    repeat (first | exact Same.hv _ _ _ | refine Same.up (by simp) ?_)
  obtain rfl : k = ps.length := by omega
  rw [List.take_length] at ho3 ⊢
  exact ⟨A3, c3, rfl, ho3, hm3⟩
/-- the words of bytes, and what is left -/
def wordsM (s : S4) (b : List UInt8) : S4 × List UInt8 := if 8 ≤ b.length then wordsM (s.word (numT (b.take 8) 8)) (b.drop 8) else (s, b)
termination_by b.length
decreasing_by simp only [List.length_drop]; omega
def sipStart (key : List UInt8) : S4 := ⟨xorM (numT (key.take 8) 8) 8317987319222330741, xorM (numT (key.drop 8) 8) 7237128888997146477, xorM (numT (key.take 8) 8) 7816392313619706465, xorM (numT (key.drop 8) 8) 8387220255154660723⟩
def lastM (y n : Int) : Int := orM y (IntKind.u64.wrap (IntKind.u64.wrap n * 2 ^ min 56 IntKind.u64.bits))
def xor4 (r : S4) : Int := xorM (xorM (xorM r.a r.b) r.c) r.d
def turnK (s : S4) (k : Int) : S4 := { s with c := xorM s.c k }
theorem S4.sK (t : S4) (k : Int) : t.cells.set 2 (.int .u64 (bits .xor .u64 t.c k)) = (turnK t k).cells := rfl
def turnC (s : S4) : S4 := turnK s 255
def sipEnd (t : S4 × List UInt8) (n : Int) : Int := xor4 (S4.rounds 4 (turnC (t.1.word (lastM (numT t.2 t.2.length) n))))
theorem xor4_eq (z : S4) : bits .xor .u64 (bits .xor .u64 (bits .xor .u64 z.a z.b) z.c) z.d = xor4 z := rfl
theorem xor4_range (r : S4) : 0 ≤ xor4 r ∧ xor4 r < 18446744073709551616 := by unfold xor4 xorM; exact bits_range _ _ _
def sipM (key b : List UInt8) : Int := sipEnd (wordsM (sipStart key) b) b.length
theorem sipM_range (key b : List UInt8) : 0 ≤ sipM key b ∧ sipM key b < 18446744073709551616 := by unfold sipM sipEnd; exact xor4_range _
theorem adv_at {A : Option Addr} {c k s : Nat} {a : Addr} (h : adv A c k s = some a) : ∃ a0, A = some a0 ∧ a.block = a0.block := by
  unfold adv at h
  split at h
  · exact ⟨a, h, rfl⟩
  · obtain ⟨a0, h0, rfl⟩ := Option.map_eq_some_iff.1 h
    refine ⟨a0, h0, ?_⟩
    unfold Addr.add
    split <;> rfl
def SumJ (all : List UInt8) (s0 : S4) (w : World) (q : Nat) (v8 : Value) (w' : World) : Prop :=
  ∃ (r : List UInt8) (A : Option Addr) (c : Nat) (s : S4), v8 = .slice A r.length c ∧ r.length ≤ c ∧ r.length ≤ all.length ∧ wordsM s r = wordsM s0 all ∧ Bs w A r ∧ (∀ a, A = some a → a.block ≠ q) ∧ Blk w' q 145 s.cells ∧ But q w w'
theorem zerState : zer Try.prog 145 = some (.agg (S4.mk 0 0 0 0).cells.toArray) := by rw [zer145]; rfl
theorem state_build (a b c d : Int) (w0 : World) (K : Value → Prop) : pureP Try.prog (Instr.build 145 #[(0, .int .u64 a), (1, .int .u64 b), (2, .int .u64 c), (3, .int .u64 d)]) K = K (.agg (S4.mk a b c d).cells.toArray) :=
  build_of (S4.mk a b c d).cells (by kernel_rfl) zerState rfl w0 K
theorem sip_sum_at (R : Int) (w : World) (key : List UInt8) (A : Option Addr) (ps : List PartM) (c : Nat) (hR : R = sipM key (joinP ps)) (hk : key.length = 16) (hA : Cs w A (ps.map PartM.cell)) (hB : ∀ p ∈ ps, Bs w p.A p.l) (hl : (joinP ps).length ≤ 100000) (hps : ps.length ≤ 1000) :
    Ret Try.prog 64 #[.agg (key.map byteV).toArray, .slice A ps.length c] w fun v w' => v = .int .u64 R ∧ More w w' := by
  refine ret_of Try.func64 rfl (by kernel_rfl) (Nat.le_of_ble_eq_true (by kernel_rfl)) ?_
  have hm1 := more_alloc w (.cells (key.map byteV).toArray 129)
  have hb1 := Blk.new w 129 (key.map byteV).toArray
  have s1 := size_alloc w (.cells (key.map byteV).toArray 129)
  simp (config := {maxSteps := 1000000}) only [↓zvN, zvU, ↓up_apply, ↓hv_apply, ↓upO_some, ↓upO_none, ↓ev_tmp, ↓ev_const, ↓ev_func, ↓ev_global, init, Nat.reduceEqDiff, Nat.reduceAdd, Nat.reduceMul, Nat.reduceSub, ↓reduceIte, Int.reduceEq, Int.reduceNe, Nat.reduceLeDiff, one, Value.cells, Int.reduceLE, Int.reduceLT, Int.reduceToNat, add_mk, reduceCtorEq, List.mem_range'_1, true_and, and_true, and_false, false_and, Nat.reduceLT, Nat.reduceLeDiff, tyF]
  generalize w.alloc (.cells (key.map byteV).toArray 129) = w1 at hm1 hb1 s1 ⊢
  rw [List.toList_toArray] at hb1
  generalize hpp : w.heap.size = p at *
  have hk0 : Bs w1 (some ⟨p, 0, none⟩) (key.take 8) := blk_bs hb1 (by rw [List.drop_zero, ← List.map_take]; congr 1; simp [hk])
  have hk1 : Bs w1 (some ⟨p, 8, none⟩) (key.drop 8) := blk_bs hb1 (by rw [← List.map_drop, ← List.map_take, List.take_of_length_le (by simp)])
  refine draw_line w1.heap.size More [0, 1, 0, 1, 0, 0] [[], [0], [], [0, 1, 2], [0, 1, 2, 3], [0, 1, 2, 3, 4]] mixed (by kernel_rfl) (by kernel_rfl) (More.refl _) (fun w' h => h) (fun w' h => h) ?_
  intro w2 hm2
  simp (config := {maxSteps := 1000000}) only [↓zvN, zvU, ↓zqD, ↓sk_nil, ↓sk_cons, ↓sk_guard, ↓sk_zero, ↓sk_one, ↓sk_two, ↓up_apply, ↓hv_apply, ↓upO_some, ↓upO_none, ↓ev_tmp, ↓ev_const, ↓ev_func, ↓ev_global, init, Nat.reduceEqDiff, Nat.reduceAdd, Nat.reduceMul, Nat.reduceSub, ↓reduceIte, Int.reduceEq, Int.reduceNe, Nat.reduceLeDiff, one, Value.cells, Int.reduceLE, Int.reduceLT, Int.reduceToNat, add_mk, reduceCtorEq, List.mem_range'_1, true_and, and_true, and_false, false_and, Nat.reduceLT, Nat.reduceLeDiff, tyF]
  have l0 : (key.take 8).length = 8 := by simp [hk]
  have l1 : (key.drop 8).length = 8 := by simp [hk]
  have hst : sipStart key = ⟨bits .xor .u64 (numT (key.take 8) 8) 8317987319222330741, bits .xor .u64 (numT (key.drop 8) 8) 7237128888997146477, bits .xor .u64 (numT (key.take 8) 8) 7816392313619706465, bits .xor .u64 (numT (key.drop 8) 8) 8387220255154660723⟩ := rfl
  obtain ⟨y0, hy0⟩ : ∃ y, y = numT (key.take 8) 8 := ⟨_, rfl⟩
  obtain ⟨y1, hy1⟩ : ∃ y, y = numT (key.drop 8) 8 := ⟨_, rfl⟩
  rw [← hy0, ← hy1] at hst
  have n0 : Ret Try.prog 73 #[.slice (some ⟨p, 0, none⟩) 8 16] w2 fun v w' => v = .int .u64 y0 ∧ More w2 w' := by
    have := sip_number w2 _ (key.take 8) 16 (hk0.more hm2) (by omega)
    rw [l0, ← hy0] at this
    exact this
  refine call_ok Try.call73 n0 ?_
  rintro _ w3 ⟨rfl, hm3⟩
  simp (config := {maxSteps := 1000000}) only [↓zvN, zvU, ↓zqD, ↓sk_nil, ↓sk_cons, ↓sk_guard, ↓sk_zero, ↓sk_one, ↓sk_two, ↓up_apply, ↓hv_apply, ↓upO_some, ↓upO_none, ↓ev_tmp, ↓ev_const, ↓ev_func, ↓ev_global, init, Nat.reduceEqDiff, Nat.reduceAdd, Nat.reduceMul, Nat.reduceSub, ↓reduceIte, Int.reduceEq, Int.reduceNe, Nat.reduceLeDiff, one, Value.cells, Int.reduceLE, Int.reduceLT, Int.reduceToNat, add_mk, reduceCtorEq, List.mem_range'_1, true_and, and_true, and_false, false_and, Nat.reduceLT, Nat.reduceLeDiff, tyF]
  refine ⟨hm2.trans hm3, ?_⟩
  have n1 : Ret Try.prog 73 #[.slice (some ⟨p, 8, none⟩) 8 8] w3 fun v w' => v = .int .u64 y1 ∧ More w3 w' := by
    have := sip_number w3 _ (key.drop 8) 8 ((hk1.more hm2).more hm3) (by omega)
    rw [l1, ← hy1] at this
    exact this
  try simp (config := {maxSteps := 1000000}) only [↓zvN, zvU, ↓zqD, ↓sk_nil, ↓sk_cons, ↓sk_guard, ↓sk_zero, ↓sk_one, ↓sk_two, ↓up_apply, ↓hv_apply, ↓upO_some, ↓upO_none, ↓ev_tmp, ↓ev_const, ↓ev_func, ↓ev_global, init, Nat.reduceEqDiff, Nat.reduceAdd, Nat.reduceMul, Nat.reduceSub, ↓reduceIte, Int.reduceEq, Int.reduceNe, Nat.reduceLeDiff, one, Value.cells, Int.reduceLE, Int.reduceLT, Int.reduceToNat, add_mk, reduceCtorEq, List.mem_range'_1, true_and, and_true, and_false, false_and, Nat.reduceLT, Nat.reduceLeDiff, tyF]
  refine call_ok Try.call73 n1 ?_
  rintro _ w4 ⟨rfl, hm4⟩
  simp (config := {maxSteps := 1000000}) only [↓zvN, zvU, ↓zqD, ↓sk_nil, ↓sk_cons, ↓sk_guard, ↓sk_zero, ↓sk_one, ↓sk_two, ↓up_apply, ↓hv_apply, ↓upO_some, ↓upO_none, ↓ev_tmp, ↓ev_const, ↓ev_func, ↓ev_global, init, Nat.reduceEqDiff, Nat.reduceAdd, Nat.reduceMul, Nat.reduceSub, ↓reduceIte, Int.reduceEq, Int.reduceNe, Nat.reduceLeDiff, one, Value.cells, Int.reduceLE, Int.reduceLT, Int.reduceToNat, add_mk, reduceCtorEq, List.mem_range'_1, true_and, and_true, and_false, false_and, Nat.reduceLT, Nat.reduceLeDiff, tyF]
  refine ⟨(hm2.trans hm3).trans hm4, ?_⟩
  have hm14 := ((hm1.trans hm2).trans hm3).trans hm4
  unfold sipM at hR
  clear n0 n1 hy0 hy1
  simp (config := {maxSteps := 1000000}) only [↓zvN, zvU, ↓up_apply, ↓hv_apply, ↓upO_some, ↓upO_none, ↓ev_tmp, ↓ev_const, ↓ev_func, ↓ev_global, init, Nat.reduceEqDiff, Nat.reduceAdd, Nat.reduceMul, Nat.reduceSub, ↓reduceIte, Int.reduceEq, Int.reduceNe, Nat.reduceLeDiff, one, Value.cells, Int.reduceLE, Int.reduceLT, Int.reduceToNat, add_mk, reduceCtorEq, List.mem_range'_1, true_and, and_true, and_false, false_and, Nat.reduceLT, Nat.reduceLeDiff, tyF, state_build _ _ _ _ w]
  rw [← hst]
  generalize sipStart key = s0 at *
  have hm5 := more_alloc w4 (.cells s0.cells.toArray 145)
  have hb5 := Blk.new w4 145 s0.cells.toArray
  have s5 := size_alloc w4 (.cells s0.cells.toArray 145)
  generalize w4.alloc (.cells s0.cells.toArray 145) = w5 at hm5 hb5 s5 ⊢
  rw [List.toList_toArray] at hb5
  have hm15 : More w w5 := hm14.trans hm5
  generalize hqq : w4.heap.size = q at *
  have hpq : w.heap.size ≤ q := by rw [← hqq]; exact hm14.size
  refine call_ok Try.call74 (slices_concat w5 A ps c (hA.more hm15) (fun x hx => (hB x hx).more hm15) hl hps) ?_
  rintro _ w6 ⟨A6, c6, rfl, ho6, hm6⟩
  have hb6 := hb5.more hm6
  have hne6 : ∀ a, A6 = some a → a.block ≠ q := fun a ha => by have := ho6.atB_ge ⟨a, ha, rfl⟩; omega
  have hle6 := ho6.le
  generalize joinP ps = all at *
  simp (config := {maxSteps := 1000000}) only [↓zvN, zvU, ↓up_apply, ↓hv_apply, ↓upO_some, ↓upO_none, ↓ev_tmp, ↓ev_const, ↓ev_func, ↓ev_global, init, Nat.reduceEqDiff, Nat.reduceAdd, Nat.reduceMul, Nat.reduceSub, ↓reduceIte, Int.reduceEq, Int.reduceNe, Nat.reduceLeDiff, one, Value.cells, Int.reduceLE, Int.reduceLT, Int.reduceToNat, add_mk, reduceCtorEq, List.mem_range'_1, true_and, and_true, and_false, false_and, Nat.reduceLT, Nat.reduceLeDiff, tyF]
  refine loop_p (8 :: List.range' 28 10) (fun e w' => SumJ all s0 w6 q (e 8) w') (fun e _ => lenOf (e 8)) ?_ ?_
  · exact ⟨all, A6, c6, s0, by simp only [hv_apply, up_apply, upO_some, upO_none, init, List.mem_cons, List.mem_range'_1, true_and, and_true, and_false, false_and, Nat.reduceLT, Nat.reduceLeDiff, Nat.reduceAdd, true_or, or_true, if_true, if_false, ↓reduceIte, Nat.reduceEqDiff, false_or, or_false, List.not_mem_nil, List.getElem?_cons_zero, List.getElem?_cons_succ, Option.getD_some] <;> rfl, hle6, Nat.le_refl _, rfl, ho6.cs, hne6, hb6, But.refl _ _⟩
  rintro v w7 ⟨r, A7, c7, s, h8, hrc, hra, hws, hB7, hne7, hb7, bt7⟩
  simp only [hv_apply, up_apply, upO_some, upO_none, init, List.mem_cons, List.mem_range'_1, true_and, and_true, and_false, false_and, Nat.reduceLT, Nat.reduceLeDiff, Nat.reduceAdd, true_or, or_true, if_true, if_false, ↓reduceIte, Nat.reduceEqDiff, false_or, or_false, List.not_mem_nil, List.getElem?_cons_zero, List.getElem?_cons_succ, Option.getD_some] at h8
  have hB7' := bt7.bs hB7 hne7
  have hm7 : More w w7 := more_but (hm15.trans hm6) bt7 hpq
  simp (config := {maxSteps := 1000000}) only [↓zvN, zvU, ↓up_apply, ↓hv_apply, ↓upO_some, ↓upO_none, ↓ev_tmp, ↓ev_const, ↓ev_func, ↓ev_global, init, Nat.reduceEqDiff, Nat.reduceAdd, Nat.reduceMul, Nat.reduceSub, ↓reduceIte, Int.reduceEq, Int.reduceNe, Nat.reduceLeDiff, one, Value.cells, Int.reduceLE, Int.reduceLT, Int.reduceToNat, add_mk, reduceCtorEq, List.mem_range'_1, true_and, and_true, and_false, false_and, Nat.reduceLT, Nat.reduceLeDiff, tyF, h8]
  refine ⟨fun h9 => ?_, fun h9 => ?_⟩
  · have g8 : (8 : Nat) ≤ r.length := by omega
    have g8c : (8 : Nat) ≤ c7 := by omega
    have l8 : (r.take 8).length = 8 := by simp; omega
    rw [wordsM, if_pos g8] at hws
    obtain ⟨y, hy⟩ : ∃ y, y = numT (r.take 8) 8 := ⟨_, rfl⟩
    rw [← hy] at hws
    have n1 : Ret Try.prog 73 #[.slice A7 8 c7] w7 fun v w' => v = .int .u64 y ∧ More w7 w' := by
      have := sip_number w7 A7 (r.take 8) c7 (hB7'.takeB 8) (by omega)
      rw [l8, ← hy] at this
      exact this
    clear hy
    simp (config := {maxSteps := 1000000}) only [↓zvN, zvU, ↓up_apply, ↓hv_apply, ↓upO_some, ↓upO_none, ↓ev_tmp, ↓ev_const, ↓ev_func, ↓ev_global, init, Nat.reduceEqDiff, Nat.reduceAdd, Nat.reduceMul, Nat.reduceSub, ↓reduceIte, Int.reduceEq, Int.reduceNe, Nat.reduceLeDiff, one, Value.cells, Int.reduceLE, Int.reduceLT, Int.reduceToNat, add_mk, reduceCtorEq, List.mem_range'_1, true_and, and_true, and_false, false_and, Nat.reduceLT, Nat.reduceLeDiff, tyF, h8, g8, g8c]
    refine call_ok Try.call73 n1 ?_
    rintro _ w8 ⟨rfl, hm8⟩
    simp (config := {maxSteps := 1000000}) only [↓zvN, zvU, ↓up_apply, ↓hv_apply, ↓upO_some, ↓upO_none, ↓ev_tmp, ↓ev_const, ↓ev_func, ↓ev_global, init, Nat.reduceEqDiff, Nat.reduceAdd, Nat.reduceMul, Nat.reduceSub, ↓reduceIte, Int.reduceEq, Int.reduceNe, Nat.reduceLeDiff, one, Value.cells, Int.reduceLE, Int.reduceLT, Int.reduceToNat, add_mk, reduceCtorEq, List.mem_range'_1, true_and, and_true, and_false, false_and, Nat.reduceLT, Nat.reduceLeDiff, tyF, h8, g8, g8c]
    refine call_ok Try.call75 (sip_word w8 q s y (hb7.more hm8)) ?_
    rintro _ w9 ⟨rfl, hb9, bt9⟩
    simp (config := {maxSteps := 1000000}) only [↓zvN, zvU, ↓up_apply, ↓hv_apply, ↓upO_some, ↓upO_none, ↓ev_tmp, ↓ev_const, ↓ev_func, ↓ev_global, init, Nat.reduceEqDiff, Nat.reduceAdd, Nat.reduceMul, Nat.reduceSub, ↓reduceIte, Int.reduceEq, Int.reduceNe, Nat.reduceLeDiff, one, Value.cells, Int.reduceLE, Int.reduceLT, Int.reduceToNat, add_mk, reduceCtorEq, List.mem_range'_1, true_and, and_true, and_false, false_and, Nat.reduceLT, Nat.reduceLeDiff, tyF, h8, g8, g8c]
    have hdl : (r.drop 8).length = r.length - 8 := by simp
    refine ⟨⟨?_, r.drop 8, adv A7 c7 8 1, c7 - 8, s.word y, by rw [hdl], by omega, by omega, hws, hB7.advB hrc, ?_, hb9, (bt7.trans (But.of_more hm8)).trans bt9⟩, by simp only [lenOf]; omega⟩
    · repeat (first | exact Same.hv _ _ _ | refine Same.up (by simp) ?_)
    · intro a ha
      obtain ⟨a0, h0, e0⟩ := adv_at ha
      rw [e0]
      exact hne7 a0 h0
  generalize hev : RV.hv _ _ v = e
  have e7 : e 7 = .pointer (some ⟨q, 0, none⟩) := by rw [← hev]; simp only [hv_apply, up_apply, upO_some, upO_none, init, List.mem_cons, List.mem_range'_1, true_and, and_true, and_false, false_and, Nat.reduceLT, Nat.reduceLeDiff, Nat.reduceAdd, true_or, or_true, if_true, if_false, ↓reduceIte, Nat.reduceEqDiff, false_or, or_false, List.not_mem_nil, List.getElem?_cons_zero, List.getElem?_cons_succ, Option.getD_some]
  have e8 : e 8 = .slice A7 r.length c7 := by rw [← hev]; simp only [hv_apply, up_apply, upO_some, upO_none, init, List.mem_cons, List.mem_range'_1, true_and, and_true, and_false, false_and, Nat.reduceLT, Nat.reduceLeDiff, Nat.reduceAdd, true_or, or_true, if_true, if_false, ↓reduceIte, Nat.reduceEqDiff, false_or, or_false, List.not_mem_nil, List.getElem?_cons_zero, List.getElem?_cons_succ, Option.getD_some]; exact h8
  have e9 : e 9 = .int .i64 all.length := by rw [← hev]; simp only [hv_apply, up_apply, upO_some, upO_none, init, List.mem_cons, List.mem_range'_1, true_and, and_true, and_false, false_and, Nat.reduceLT, Nat.reduceLeDiff, Nat.reduceAdd, true_or, or_true, if_true, if_false, ↓reduceIte, Nat.reduceEqDiff, false_or, or_false, List.not_mem_nil, List.getElem?_cons_zero, List.getElem?_cons_succ, Option.getD_some]
  clear hev h8
  obtain ⟨nn, hnn⟩ : ∃ n : Int, n = (all.length : Int) := ⟨_, rfl⟩
  rw [← hnn] at e9
  rw [wordsM, if_neg (by omega)] at hws
  rw [← hws] at hR
  obtain ⟨y, hy⟩ : ∃ y, y = numT r r.length := ⟨_, rfl⟩
  have n1 := sip_number w7 A7 r c7 hB7' (by omega)
  have hend : sipEnd (s, r) all.length = xor4 (S4.rounds 4 (turnC (s.word (lastM (numT r r.length) all.length)))) := rfl
  rw [← hy] at n1 hend
  rw [hend] at hR
  clear hy hend
  refine call_ok Try.call73 n1 ?_
  rintro _ w8 ⟨rfl, hm8⟩
  rw [← hnn] at hR
  clear hnn
  have hlast : bits .or .u64 y (IntKind.u64.wrap (IntKind.u64.wrap nn * 2 ^ min 56 IntKind.u64.bits)) = lastM y nn := rfl
  simp (config := {maxSteps := 1000000}) only [↓zvN, zvU, ↓up_apply, ↓hv_apply, ↓upO_some, ↓upO_none, ↓ev_tmp, ↓ev_const, ↓ev_func, ↓ev_global, init, Nat.reduceEqDiff, Nat.reduceAdd, Nat.reduceMul, Nat.reduceSub, ↓reduceIte, Int.reduceEq, Int.reduceNe, Nat.reduceLeDiff, one, Value.cells, Int.reduceLE, Int.reduceLT, Int.reduceToNat, add_mk, reduceCtorEq, List.mem_range'_1, true_and, and_true, and_false, false_and, Nat.reduceLT, Nat.reduceLeDiff, tyF, e7, e8, e9, hlast]
  clear hlast
  obtain ⟨m, hm⟩ : ∃ m, lastM y nn = m := ⟨_, rfl⟩
  rw [hm] at hR ⊢
  clear hm
  refine call_ok Try.call75 (sip_word w8 q s m (hb7.more hm8)) ?_
  rintro _ w9 ⟨rfl, hb9, bt9⟩
  obtain ⟨t, ht⟩ : ∃ t, s.word m = t := ⟨_, rfl⟩
  rw [ht] at hR hb9
  clear ht
  rw [s2_tuple, s2_tuple, zp_nil]
  have hcc := hb9.cell 2
  simp only [S4.cells, List.getElem?_cons_zero, List.getElem?_cons_succ] at hcc
  rw [n_normal, c_seq, zc_region]
  refine ops_name fun K9 hK9 => ?_
  simp (config := {maxSteps := 1000000}) only [↓zvN, zvU, ↓up_apply, ↓hv_apply, ↓upO_some, ↓upO_none, ↓ev_tmp, ↓ev_const, ↓ev_func, ↓ev_global, init, Nat.reduceEqDiff, Nat.reduceAdd, Nat.reduceMul, Nat.reduceSub, ↓reduceIte, Int.reduceEq, Int.reduceNe, Nat.reduceLeDiff, one, Value.cells, Int.reduceLE, Int.reduceLT, Int.reduceToNat, add_mk, reduceCtorEq, List.mem_range'_1, true_and, and_true, and_false, false_and, Nat.reduceLT, Nat.reduceLeDiff, tyF, e7, hcc]
  have hcs := S4.sK t 255
  rw [show turnK t 255 = turnC t from rfl] at hcs
  obtain ⟨xx, hx⟩ : ∃ xx, bits .xor .u64 t.c 255 = xx := ⟨_, rfl⟩
  rw [hx] at hcs ⊢
  clear hx
  refine st_cell hb9 (by simp [S4.cells]) rfl fun w10 i1 i2 => ?_
  rw [s2_undef]
  rw [hcs] at i2
  clear hcs
  obtain ⟨u, hu⟩ : ∃ u, turnC t = u := ⟨_, rfl⟩
  rw [hu] at hR i2
  clear hu
  simp (config := {maxSteps := 1000000}) only [↓zvN, zvU, ↓up_apply, ↓hv_apply, ↓upO_some, ↓upO_none, ↓ev_tmp, ↓ev_const, ↓ev_func, ↓ev_global, init, Nat.reduceEqDiff, Nat.reduceAdd, Nat.reduceMul, Nat.reduceSub, ↓reduceIte, Int.reduceEq, Int.reduceNe, Nat.reduceLeDiff, one, Value.cells, Int.reduceLE, Int.reduceLT, Int.reduceToNat, add_mk, reduceCtorEq, List.mem_range'_1, true_and, and_true, and_false, false_and, Nat.reduceLT, Nat.reduceLeDiff, tyF, e7]
  refine hK9 _ _ ?_
  clear hK9 K9
  simp (config := {maxSteps := 1000000}) only [↓zvN, zvU, ↓up_apply, ↓hv_apply, ↓upO_some, ↓upO_none, ↓ev_tmp, ↓ev_const, ↓ev_func, ↓ev_global, init, Nat.reduceEqDiff, Nat.reduceAdd, Nat.reduceMul, Nat.reduceSub, ↓reduceIte, Int.reduceEq, Int.reduceNe, Nat.reduceLeDiff, one, Value.cells, Int.reduceLE, Int.reduceLT, Int.reduceToNat, add_mk, reduceCtorEq, List.mem_range'_1, true_and, and_true, and_false, false_and, Nat.reduceLT, Nat.reduceLeDiff, tyF, e7]
  refine call_ok Try.call76 (sip_round w10 q u 4 i2 (by omega)) ?_
  rintro _ w11 ⟨rfl, hb11, bt11⟩
  obtain ⟨z, hz⟩ : ∃ z, S4.rounds 4 u = z := ⟨_, rfl⟩
  rw [hz] at hR hb11
  clear hz
  try simp (config := {maxSteps := 1000000}) only [↓zvN, zvU, ↓up_apply, ↓hv_apply, ↓upO_some, ↓upO_none, ↓ev_tmp, ↓ev_const, ↓ev_func, ↓ev_global, init, Nat.reduceEqDiff, Nat.reduceAdd, Nat.reduceMul, Nat.reduceSub, ↓reduceIte, Int.reduceEq, Int.reduceNe, Nat.reduceLeDiff, one, Value.cells, Int.reduceLE, Int.reduceLT, Int.reduceToNat, add_mk, reduceCtorEq, List.mem_range'_1, true_and, and_true, and_false, false_and, Nat.reduceLT, Nat.reduceLeDiff, tyF, e7]
  have ca := hb11.cell 0
  have cb := hb11.cell 1
  have cq := hb11.cell 2
  have cd := hb11.cell 3
  have hlt := hb11.lt
  simp only [S4.cells, List.getElem?_cons_zero, List.getElem?_cons_succ] at ca cb cq cd
  have hx4 := xor4_eq z
  refine draw_calm mixed (by kernel_rfl) ?_
  simp (config := {maxSteps := 1000000}) only [↓zvN, zvU, ↓zqD, ↓up_apply, ↓hv_apply, ↓upO_some, ↓upO_none, ↓ev_tmp, ↓ev_const, ↓ev_func, ↓ev_global, init, Nat.reduceEqDiff, Nat.reduceAdd, Nat.reduceMul, Nat.reduceSub, ↓reduceIte, Int.reduceEq, Int.reduceNe, Nat.reduceLeDiff, one, Value.cells, Int.reduceLE, Int.reduceLT, Int.reduceToNat, add_mk, reduceCtorEq, List.mem_range'_1, true_and, and_true, and_false, false_and, Nat.reduceLT, Nat.reduceLeDiff, tyF, e7, ca, cb, cq, cd, hlt, hx4]
  intro w12 hm12
  try simp (config := {maxSteps := 1000000}) only [↓zvN, zvU, ↓up_apply, ↓hv_apply, ↓upO_some, ↓upO_none, ↓ev_tmp, ↓ev_const, ↓ev_func, ↓ev_global, init, Nat.reduceEqDiff, Nat.reduceAdd, Nat.reduceMul, Nat.reduceSub, ↓reduceIte, Int.reduceEq, Int.reduceNe, Nat.reduceLeDiff, one, Value.cells, Int.reduceLE, Int.reduceLT, Int.reduceToNat, add_mk, reduceCtorEq, List.mem_range'_1, true_and, and_true, and_false, false_and, Nat.reduceLT, Nat.reduceLeDiff, tyF]
  have bt := (((bt7.trans (But.of_more hm8)).trans bt9).trans (But.of_wr i1)).trans bt11
  exact ⟨by rw [hR], (more_but (hm15.trans hm6) bt hpq).trans hm12⟩
theorem sip_sum (w : World) (key : List UInt8) (A : Option Addr) (ps : List PartM) (c : Nat) (hk : key.length = 16) (hA : Cs w A (ps.map PartM.cell)) (hB : ∀ p ∈ ps, Bs w p.A p.l) (hl : (joinP ps).length ≤ 100000) (hps : ps.length ≤ 1000) :
    Ret Try.prog 64 #[.agg (key.map byteV).toArray, .slice A ps.length c] w fun v w' => v = .int .u64 (sipM key (joinP ps)) ∧ More w w' :=
  sip_sum_at _ w key A ps c rfl hk hA hB hl hps
end Go.Proofs.Ytimhcjakpdebjaa
