/-
  Layer 7: sums of bytes: what is reckoned, as a function of the key and the bytes.
-/
import Derived.Test.YtimhcjakpdebjaaTabA
import Derived.Test.YtimhcjakpdebjaaXt
import Derived.Lib.AppendZerosOnto
namespace Go.Proofs.Ytimhcjakpdebjaa
open Go Go.RowKit Go.Proofs.RV
set_option linter.unusedSimpArgs false
set_option linter.unusedVariables false
set_option maxRecDepth 10000
set_option maxHeartbeats 4000000
theorem wrapu_range (x : Int) : 0 ≤ IntKind.u64.wrap x ∧ IntKind.u64.wrap x < 18446744073709551616 := by
  simp [IntKind.wrap, IntKind.signed, IntKind.bits]
  omega
theorem bits_range (op : BinOp) (x y : Int) : 0 ≤ bits op .u64 x y ∧ bits op .u64 x y < 18446744073709551616 := by
  unfold bits
  exact wrapu_range _
def xorM (x y : Int) : Int := bits .xor .u64 x y
def orM (x y : Int) : Int := bits .or .u64 x y
def rotM (x : Int) (k : Nat) : Int := orM (IntKind.u64.wrap (x * 2 ^ min k 64)) (x.fdiv (2 ^ min (64 - k) 64))
theorem bits_rotate (w : World) (x : Int) (k : Nat) (hk : k < 64) : Ret Try.prog 90 #[.int .u64 x, .int .i64 k] w fun v w' => v = .int .u64 (rotM x k) ∧ w' = w := by
  refine ret_of Try.func90 rfl (by kernel_rfl) (Nat.le_of_ble_eq_true (by kernel_rfl)) ?_
  have e1 : IntKind.u64.wrap (k : Int) = k := wu64 (by omega) (by omega)
  have e2 : bits .and .u64 (k : Int) 63 = (k : Int) := by
    have := and_mask (k := .u64) (x := (k : Int)) 6 (by omega) (by simp [IntKind.max, IntKind.signed, IntKind.bits]; omega) (by decide)
    rw [show ((2 ^ 6 - 1 : Nat) : Int) = 63 from rfl] at this
    rw [this]
    show (k : Int) % 64 = k
    omega
  have e3 : IntKind.u64.wrap (64 - (k : Int)) = ((64 - k : Nat) : Int) := by rw [show (64 : Int) - (k : Int) = ((64 - k : Nat) : Int) by omega]; exact wu64 (by omega) (by omega)
  have g0 : (0 : Int) ≤ (k : Int) := by omega
  have g1 : (0 : Int) ≤ ((64 - k : Nat) : Int) := by omega
  simp (config := {maxSteps := 1000000}) only [↓zvN, zvU, ↓up_apply, ↓hv_apply, ↓upO_some, ↓upO_none, ↓ev_tmp, ↓ev_const, ↓ev_func, ↓ev_global, init, Nat.reduceEqDiff, Nat.reduceAdd, Nat.reduceMul, Nat.reduceSub, ↓reduceIte, Int.reduceEq, Int.reduceNe, Nat.reduceLeDiff, one, Value.cells, Int.reduceLE, Int.reduceLT, Int.reduceToNat, add_mk, reduceCtorEq, List.mem_range'_1, true_and, and_true, and_false, false_and, Nat.reduceLT, Nat.reduceLeDiff, tyF, e1, e2, e3, g0, g1, Int.toNat_natCast]
  rfl
structure S4 where
  a : Int
  b : Int
  c : Int
  d : Int
def S4.cells (s : S4) : List Value := [.int .u64 s.a, .int .u64 s.b, .int .u64 s.c, .int .u64 s.d]
def waddM (x y : Int) : Int := IntKind.u64.wrap (x + y)
def S4.r1 (s : S4) : S4 := { s with a := waddM s.a s.b }
def S4.r2 (s : S4) : S4 := { s with b := xorM (rotM s.b 13) s.a }
def S4.r3 (s : S4) : S4 := { s with a := rotM s.a 32 }
def S4.r4 (s : S4) : S4 := { s with c := waddM s.c s.d }
def S4.r5 (s : S4) : S4 := { s with d := xorM (rotM s.d 16) s.c }
def S4.r6 (s : S4) : S4 := { s with a := waddM s.a s.d }
def S4.r7 (s : S4) : S4 := { s with d := xorM (rotM s.d 21) s.a }
def S4.r8 (s : S4) : S4 := { s with c := waddM s.c s.b }
def S4.r9 (s : S4) : S4 := { s with b := xorM (rotM s.b 17) s.c }
def S4.r10 (s : S4) : S4 := { s with c := rotM s.c 32 }
def S4.round (s : S4) : S4 := s.r1.r2.r3.r4.r5.r6.r7.r8.r9.r10
def S4.rounds : Nat → S4 → S4
  | 0, s => s
  | n + 1, s => (S4.rounds n s).round
theorem S4.s1 (t : S4) : t.cells.set 0 (.int .u64 (IntKind.u64.wrap (t.a + t.b))) = t.r1.cells := rfl
theorem S4.s2 (t : S4) : t.cells.set 1 (.int .u64 (bits .xor .u64 (rotM t.b 13) t.a)) = t.r2.cells := rfl
theorem S4.s3 (t : S4) : t.cells.set 0 (.int .u64 (rotM t.a 32)) = t.r3.cells := rfl
theorem S4.s4 (t : S4) : t.cells.set 2 (.int .u64 (IntKind.u64.wrap (t.c + t.d))) = t.r4.cells := rfl
theorem S4.s5 (t : S4) : t.cells.set 3 (.int .u64 (bits .xor .u64 (rotM t.d 16) t.c)) = t.r5.cells := rfl
theorem S4.s6 (t : S4) : t.cells.set 0 (.int .u64 (IntKind.u64.wrap (t.a + t.d))) = t.r6.cells := rfl
theorem S4.s7 (t : S4) : t.cells.set 3 (.int .u64 (bits .xor .u64 (rotM t.d 21) t.a)) = t.r7.cells := rfl
theorem S4.s8 (t : S4) : t.cells.set 2 (.int .u64 (IntKind.u64.wrap (t.c + t.b))) = t.r8.cells := rfl
theorem S4.s9 (t : S4) : t.cells.set 1 (.int .u64 (bits .xor .u64 (rotM t.b 17) t.c)) = t.r9.cells := rfl
theorem S4.s10 (t : S4) : t.cells.set 2 (.int .u64 (rotM t.c 32)) = t.r10.cells := rfl
def RoundJ (s : S4) (n : Nat) (w : World) (q : Nat) (v : Value) (w' : World) : Prop := ∃ k : Nat, v = .int .i64 k ∧ k ≤ n ∧ Blk w' q 145 (S4.rounds k s).cells ∧ But q w w'
theorem sip_round (w : World) (q : Nat) (s : S4) (n : Nat) (hb : Blk w q 145 s.cells) (hn : n ≤ 1000) :
    Ret Try.prog 76 #[.pointer (some ⟨q, 0, none⟩), .int .i64 n] w fun v w' => v = .tuple #[] ∧ Blk w' q 145 (S4.rounds n s).cells ∧ But q w w' := by
  refine ret_of Try.func76 rfl (by kernel_rfl) (Nat.le_of_ble_eq_true (by kernel_rfl)) ?_
  simp (config := {maxSteps := 1000000}) only [↓zvN, zvU, ↓up_apply, ↓hv_apply, ↓upO_some, ↓upO_none, ↓ev_tmp, ↓ev_const, ↓ev_func, ↓ev_global, init, Nat.reduceEqDiff, Nat.reduceAdd, Nat.reduceMul, Nat.reduceSub, ↓reduceIte, Int.reduceEq, Int.reduceNe, Nat.reduceLeDiff, one, Value.cells, Int.reduceLE, Int.reduceLT, Int.reduceToNat, add_mk, reduceCtorEq, List.mem_range'_1, true_and, and_true, and_false, false_and, Nat.reduceLT, Nat.reduceLeDiff, tyF]
  refine loop_p (5 :: List.range' 6 114) (fun e w' => RoundJ s n w q (e 5) w') (fun e _ => n - (numOf (e 5)).toNat) ?_ ?_
  · exact ⟨0, by simp only [hv_apply, up_apply, upO_some, upO_none, init, List.mem_cons, List.mem_range'_1, true_and, and_true, and_false, false_and, Nat.reduceLT, Nat.reduceLeDiff, Nat.reduceAdd, true_or, or_true, if_true, if_false, ↓reduceIte, Nat.reduceEqDiff, false_or, or_false, List.not_mem_nil, List.getElem?_cons_zero, List.getElem?_cons_succ, Option.getD_some] <;> rfl, by omega, hb, But.refl _ _⟩
  rintro v w1 ⟨k, h5, hk, hw, bw⟩
  simp only [hv_apply, up_apply, upO_some, upO_none, init, List.mem_cons, List.mem_range'_1, true_and, and_true, and_false, false_and, Nat.reduceLT, Nat.reduceLeDiff, Nat.reduceAdd, true_or, or_true, if_true, if_false, ↓reduceIte, Nat.reduceEqDiff, false_or, or_false, List.not_mem_nil, List.getElem?_cons_zero, List.getElem?_cons_succ, Option.getD_some] at h5
  have ek : IntKind.i64.wrap ((k : Int) + 1) = ((k + 1 : Nat) : Int) := w64 (by omega) (by omega)
  simp (config := {maxSteps := 1000000}) only [↓zvN, zvU, ↓up_apply, ↓hv_apply, ↓upO_some, ↓upO_none, ↓ev_tmp, ↓ev_const, ↓ev_func, ↓ev_global, init, Nat.reduceEqDiff, Nat.reduceAdd, Nat.reduceMul, Nat.reduceSub, ↓reduceIte, Int.reduceEq, Int.reduceNe, Nat.reduceLeDiff, one, Value.cells, Int.reduceLE, Int.reduceLT, Int.reduceToNat, add_mk, reduceCtorEq, List.mem_range'_1, true_and, and_true, and_false, false_and, Nat.reduceLT, Nat.reduceLeDiff, tyF, h5]
  refine ⟨fun h9 => ?_, fun h9 => ?_⟩
  rotate_left
  · obtain rfl : k = n := by omega
    exact ⟨hw, bw⟩
  have hstep : S4.rounds (k + 1) s = (S4.rounds k s).round := rfl
  generalize S4.rounds k s = t at *
  have hst : S4.rounds (k + 1) s = t.r1.r2.r3.r4.r5.r6.r7.r8.r9.r10 := hstep
  clear hstep
  have ca := Blk.cell hw 0
  have cb := Blk.cell hw 1
  have cq := Blk.cell hw 2
  have cd := Blk.cell hw 3
  have hlt := Blk.lt hw
  simp only [S4.cells, List.getElem?_cons_zero, List.getElem?_cons_succ] at ca cb cq cd
  refine draw_name fun K hK => ?_
  refine draw_seen 8 [[], [0], [0, 1], [0, 1, 2], [], [4], [4, 5], [4, 5, 6], [0, 1, 2, 3, 4, 5, 6, 7], [0, 1, 2, 3, 4, 5, 6, 7, 8], [0, 1, 2, 3, 4, 5, 6, 7, 8, 9], [0, 1, 2, 3, 4, 5, 6, 7, 8, 9, 10]] (RV.look []) mixed (by kernel_rfl) (by kernel_rfl) (look_keeps _ (by simp)) ?_
  simp (config := {maxSteps := 1000000}) only [↓zvN, zvU, ↓zqD, ↓up_apply, ↓hv_apply, ↓upO_some, ↓upO_none, ↓ev_tmp, ↓ev_const, ↓ev_func, ↓ev_global, init, Nat.reduceEqDiff, Nat.reduceAdd, Nat.reduceMul, Nat.reduceSub, ↓reduceIte, Int.reduceEq, Int.reduceNe, Nat.reduceLeDiff, one, Value.cells, Int.reduceLE, Int.reduceLT, Int.reduceToNat, add_mk, reduceCtorEq, List.mem_range'_1, true_and, and_true, and_false, false_and, Nat.reduceLT, Nat.reduceLeDiff, tyF, ca, cb, cq, cd, hlt]
  intro w9 hm9
  have b9 := But.trans bw (But.of_more hm9)
  refine st_cell (Blk.more hw hm9) (by simp [S4.cells]) rfl fun w2 j1 j2 => ?_
  rw [s2_undef]
  try rw [hy] at j2
  rw [S4.s1] at j2
  replace hw := j2
  replace bw := But.trans b9 (But.of_wr j1)
  clear j1 j2 b9 hm9 ca cb cq cd hlt
  generalize S4.r1 t = t at hw hst ⊢
  try simp (config := {maxSteps := 1000000}) only [↓zvN, zvU, ↓up_apply, ↓hv_apply, ↓upO_some, ↓upO_none, ↓ev_tmp, ↓ev_const, ↓ev_func, ↓ev_global, init, Nat.reduceEqDiff, Nat.reduceAdd, Nat.reduceMul, Nat.reduceSub, ↓reduceIte, Int.reduceEq, Int.reduceNe, Nat.reduceLeDiff, one, Value.cells, Int.reduceLE, Int.reduceLT, Int.reduceToNat, add_mk, reduceCtorEq, List.mem_range'_1, true_and, and_true, and_false, false_and, Nat.reduceLT, Nat.reduceLeDiff, tyF]
  refine hK _ _ ?_
  clear hK K
  try simp (config := {maxSteps := 1000000}) only [↓zvN, zvU, ↓up_apply, ↓hv_apply, ↓upO_some, ↓upO_none, ↓ev_tmp, ↓ev_const, ↓ev_func, ↓ev_global, init, Nat.reduceEqDiff, Nat.reduceAdd, Nat.reduceMul, Nat.reduceSub, ↓reduceIte, Int.reduceEq, Int.reduceNe, Nat.reduceLeDiff, one, Value.cells, Int.reduceLE, Int.reduceLT, Int.reduceToNat, add_mk, reduceCtorEq, List.mem_range'_1, true_and, and_true, and_false, false_and, Nat.reduceLT, Nat.reduceLeDiff, tyF]
  have ca := Blk.cell hw 0
  have cb := Blk.cell hw 1
  have cq := Blk.cell hw 2
  have cd := Blk.cell hw 3
  have hlt := Blk.lt hw
  simp only [S4.cells, List.getElem?_cons_zero, List.getElem?_cons_succ] at ca cb cq cd
  obtain ⟨y, hy⟩ : ∃ y, y = rotM t.b 13 := ⟨_, rfl⟩
  have hcall : ∀ w8, Ret Try.prog 90 #[.int .u64 t.b, .int .i64 13] w8 fun v w' => v = .int .u64 y ∧ w' = w8 := fun w8 => by rw [hy]; exact bits_rotate w8 t.b 13 (by omega)
  refine draw_name fun K hK => ?_
  refine draw_seen 11 [[], [], [1], [1, 2], [1, 2, 3], [1, 2, 3, 4], [], [6], [6, 7], [6, 7, 8], [1, 2, 3, 4, 5, 6, 7, 8, 9], [0, 1, 2, 3, 4, 5, 6, 7, 8, 9, 10], [0, 1, 2, 3, 4, 5, 6, 7, 8, 9, 10, 11], [0, 1, 2, 3, 4, 5, 6, 7, 8, 9, 10, 11, 12]] (RV.look [(5, RV.IsV (.int .u64 y))]) mixed (by kernel_rfl) (by kernel_rfl) (look_keeps _ (by simp [keepsV])) ?_
  simp (config := {maxSteps := 1000000}) only [↓zvN, zvU, ↓zqD, ↓up_apply, ↓hv_apply, ↓upO_some, ↓upO_none, ↓ev_tmp, ↓ev_const, ↓ev_func, ↓ev_global, init, Nat.reduceEqDiff, Nat.reduceAdd, Nat.reduceMul, Nat.reduceSub, ↓reduceIte, Int.reduceEq, Int.reduceNe, Nat.reduceLeDiff, one, Value.cells, Int.reduceLE, Int.reduceLT, Int.reduceToNat, add_mk, reduceCtorEq, List.mem_range'_1, true_and, and_true, and_false, false_and, Nat.reduceLT, Nat.reduceLeDiff, tyF, ca, cb, cq, cd, hlt]
  refine ⟨fun w8 hm8 => call_ok Try.call90 (hcall w8) ?_, ?_⟩
  · rintro _ w9 ⟨rfl, rfl⟩
    simp (config := {maxSteps := 1000000}) only [↓zvN, zvU, ↓zqD, ↓up_apply, ↓hv_apply, ↓upO_some, ↓upO_none, ↓ev_tmp, ↓ev_const, ↓ev_func, ↓ev_global, init, Nat.reduceEqDiff, Nat.reduceAdd, Nat.reduceMul, Nat.reduceSub, ↓reduceIte, Int.reduceEq, Int.reduceNe, Nat.reduceLeDiff, one, Value.cells, Int.reduceLE, Int.reduceLT, Int.reduceToNat, add_mk, reduceCtorEq, List.mem_range'_1, true_and, and_true, and_false, false_and, Nat.reduceLT, Nat.reduceLeDiff, tyF]
    exact ⟨More.refl _, rfl⟩
  rintro _ ⟨w8, hm8, rfl⟩
  simp (config := {maxSteps := 1000000}) only [↓zvN, zvU, ↓zqD, ↓up_apply, ↓hv_apply, ↓upO_some, ↓upO_none, ↓ev_tmp, ↓ev_const, ↓ev_func, ↓ev_global, init, Nat.reduceEqDiff, Nat.reduceAdd, Nat.reduceMul, Nat.reduceSub, ↓reduceIte, Int.reduceEq, Int.reduceNe, Nat.reduceLeDiff, one, Value.cells, Int.reduceLE, Int.reduceLT, Int.reduceToNat, add_mk, reduceCtorEq, List.mem_range'_1, true_and, and_true, and_false, false_and, Nat.reduceLT, Nat.reduceLeDiff, tyF, ca, cb, cq, cd, hlt]
  intro w9 hm9 _
  clear hm8 hcall
  have b9 := But.trans bw (But.of_more hm9)
  refine st_cell (Blk.more hw hm9) (by simp [S4.cells]) rfl fun w3 j1 j2 => ?_
  rw [s2_undef]
  try rw [hy] at j2
  rw [S4.s2] at j2
  replace hw := j2
  replace bw := But.trans b9 (But.of_wr j1)
  clear j1 j2 b9 hm9 ca cb cq cd hlt
  generalize S4.r2 t = t at hw hst ⊢
  try simp (config := {maxSteps := 1000000}) only [↓zvN, zvU, ↓up_apply, ↓hv_apply, ↓upO_some, ↓upO_none, ↓ev_tmp, ↓ev_const, ↓ev_func, ↓ev_global, init, Nat.reduceEqDiff, Nat.reduceAdd, Nat.reduceMul, Nat.reduceSub, ↓reduceIte, Int.reduceEq, Int.reduceNe, Nat.reduceLeDiff, one, Value.cells, Int.reduceLE, Int.reduceLT, Int.reduceToNat, add_mk, reduceCtorEq, List.mem_range'_1, true_and, and_true, and_false, false_and, Nat.reduceLT, Nat.reduceLeDiff, tyF]
  refine hK _ _ ?_
  clear hK K
  try simp (config := {maxSteps := 1000000}) only [↓zvN, zvU, ↓up_apply, ↓hv_apply, ↓upO_some, ↓upO_none, ↓ev_tmp, ↓ev_const, ↓ev_func, ↓ev_global, init, Nat.reduceEqDiff, Nat.reduceAdd, Nat.reduceMul, Nat.reduceSub, ↓reduceIte, Int.reduceEq, Int.reduceNe, Nat.reduceLeDiff, one, Value.cells, Int.reduceLE, Int.reduceLT, Int.reduceToNat, add_mk, reduceCtorEq, List.mem_range'_1, true_and, and_true, and_false, false_and, Nat.reduceLT, Nat.reduceLeDiff, tyF]
  have ca := Blk.cell hw 0
  have cb := Blk.cell hw 1
  have cq := Blk.cell hw 2
  have cd := Blk.cell hw 3
  have hlt := Blk.lt hw
  simp only [S4.cells, List.getElem?_cons_zero, List.getElem?_cons_succ] at ca cb cq cd
  try simp (config := {maxSteps := 1000000}) only [↓zvN, zvU, ↓up_apply, ↓hv_apply, ↓upO_some, ↓upO_none, ↓ev_tmp, ↓ev_const, ↓ev_func, ↓ev_global, init, Nat.reduceEqDiff, Nat.reduceAdd, Nat.reduceMul, Nat.reduceSub, ↓reduceIte, Int.reduceEq, Int.reduceNe, Nat.reduceLeDiff, one, Value.cells, Int.reduceLE, Int.reduceLT, Int.reduceToNat, add_mk, reduceCtorEq, List.mem_range'_1, true_and, and_true, and_false, false_and, Nat.reduceLT, Nat.reduceLeDiff, tyF, ca, cb, cq, cd]
  refine call_ok Try.call90 (bits_rotate _ t.a 32 (by omega)) ?_
  rintro _ w9 ⟨rfl, rfl⟩
  have hm9 := More.refl w9
  simp (config := {maxSteps := 1000000}) only [↓zvN, zvU, ↓up_apply, ↓hv_apply, ↓upO_some, ↓upO_none, ↓ev_tmp, ↓ev_const, ↓ev_func, ↓ev_global, init, Nat.reduceEqDiff, Nat.reduceAdd, Nat.reduceMul, Nat.reduceSub, ↓reduceIte, Int.reduceEq, Int.reduceNe, Nat.reduceLeDiff, one, Value.cells, Int.reduceLE, Int.reduceLT, Int.reduceToNat, add_mk, reduceCtorEq, List.mem_range'_1, true_and, and_true, and_false, false_and, Nat.reduceLT, Nat.reduceLeDiff, tyF]
  have b9 := But.trans bw (But.of_more hm9)
  refine st_cell (Blk.more hw hm9) (by simp [S4.cells]) rfl fun w4 j1 j2 => ?_
  rw [s2_undef]
  try rw [hy] at j2
  rw [S4.s3] at j2
  replace hw := j2
  replace bw := But.trans b9 (But.of_wr j1)
  clear j1 j2 b9 hm9 ca cb cq cd hlt
  generalize S4.r3 t = t at hw hst ⊢
  try simp (config := {maxSteps := 1000000}) only [↓zvN, zvU, ↓up_apply, ↓hv_apply, ↓upO_some, ↓upO_none, ↓ev_tmp, ↓ev_const, ↓ev_func, ↓ev_global, init, Nat.reduceEqDiff, Nat.reduceAdd, Nat.reduceMul, Nat.reduceSub, ↓reduceIte, Int.reduceEq, Int.reduceNe, Nat.reduceLeDiff, one, Value.cells, Int.reduceLE, Int.reduceLT, Int.reduceToNat, add_mk, reduceCtorEq, List.mem_range'_1, true_and, and_true, and_false, false_and, Nat.reduceLT, Nat.reduceLeDiff, tyF]
  have ca := Blk.cell hw 0
  have cb := Blk.cell hw 1
  have cq := Blk.cell hw 2
  have cd := Blk.cell hw 3
  have hlt := Blk.lt hw
  simp only [S4.cells, List.getElem?_cons_zero, List.getElem?_cons_succ] at ca cb cq cd
  refine draw_name fun K hK => ?_
  refine draw_seen 8 [[], [0], [0, 1], [0, 1, 2], [], [4], [4, 5], [4, 5, 6], [0, 1, 2, 3, 4, 5, 6, 7], [0, 1, 2, 3, 4, 5, 6, 7, 8], [0, 1, 2, 3, 4, 5, 6, 7, 8, 9], [0, 1, 2, 3, 4, 5, 6, 7, 8, 9, 10]] (RV.look []) mixed (by kernel_rfl) (by kernel_rfl) (look_keeps _ (by simp)) ?_
  simp (config := {maxSteps := 1000000}) only [↓zvN, zvU, ↓zqD, ↓up_apply, ↓hv_apply, ↓upO_some, ↓upO_none, ↓ev_tmp, ↓ev_const, ↓ev_func, ↓ev_global, init, Nat.reduceEqDiff, Nat.reduceAdd, Nat.reduceMul, Nat.reduceSub, ↓reduceIte, Int.reduceEq, Int.reduceNe, Nat.reduceLeDiff, one, Value.cells, Int.reduceLE, Int.reduceLT, Int.reduceToNat, add_mk, reduceCtorEq, List.mem_range'_1, true_and, and_true, and_false, false_and, Nat.reduceLT, Nat.reduceLeDiff, tyF, ca, cb, cq, cd, hlt]
  intro w9 hm9
  have b9 := But.trans bw (But.of_more hm9)
  refine st_cell (Blk.more hw hm9) (by simp [S4.cells]) rfl fun w5 j1 j2 => ?_
  rw [s2_undef]
  try rw [hy] at j2
  rw [S4.s4] at j2
  replace hw := j2
  replace bw := But.trans b9 (But.of_wr j1)
  clear j1 j2 b9 hm9 ca cb cq cd hlt
  generalize S4.r4 t = t at hw hst ⊢
  try simp (config := {maxSteps := 1000000}) only [↓zvN, zvU, ↓up_apply, ↓hv_apply, ↓upO_some, ↓upO_none, ↓ev_tmp, ↓ev_const, ↓ev_func, ↓ev_global, init, Nat.reduceEqDiff, Nat.reduceAdd, Nat.reduceMul, Nat.reduceSub, ↓reduceIte, Int.reduceEq, Int.reduceNe, Nat.reduceLeDiff, one, Value.cells, Int.reduceLE, Int.reduceLT, Int.reduceToNat, add_mk, reduceCtorEq, List.mem_range'_1, true_and, and_true, and_false, false_and, Nat.reduceLT, Nat.reduceLeDiff, tyF]
  refine hK _ _ ?_
  clear hK K
  try simp (config := {maxSteps := 1000000}) only [↓zvN, zvU, ↓up_apply, ↓hv_apply, ↓upO_some, ↓upO_none, ↓ev_tmp, ↓ev_const, ↓ev_func, ↓ev_global, init, Nat.reduceEqDiff, Nat.reduceAdd, Nat.reduceMul, Nat.reduceSub, ↓reduceIte, Int.reduceEq, Int.reduceNe, Nat.reduceLeDiff, one, Value.cells, Int.reduceLE, Int.reduceLT, Int.reduceToNat, add_mk, reduceCtorEq, List.mem_range'_1, true_and, and_true, and_false, false_and, Nat.reduceLT, Nat.reduceLeDiff, tyF]
  have ca := Blk.cell hw 0
  have cb := Blk.cell hw 1
  have cq := Blk.cell hw 2
  have cd := Blk.cell hw 3
  have hlt := Blk.lt hw
  simp only [S4.cells, List.getElem?_cons_zero, List.getElem?_cons_succ] at ca cb cq cd
  obtain ⟨y, hy⟩ : ∃ y, y = rotM t.d 16 := ⟨_, rfl⟩
  have hcall : ∀ w8, Ret Try.prog 90 #[.int .u64 t.d, .int .i64 16] w8 fun v w' => v = .int .u64 y ∧ w' = w8 := fun w8 => by rw [hy]; exact bits_rotate w8 t.d 16 (by omega)
  refine draw_name fun K hK => ?_
  refine draw_seen 11 [[], [], [1], [1, 2], [1, 2, 3], [1, 2, 3, 4], [], [6], [6, 7], [6, 7, 8], [1, 2, 3, 4, 5, 6, 7, 8, 9], [0, 1, 2, 3, 4, 5, 6, 7, 8, 9, 10], [0, 1, 2, 3, 4, 5, 6, 7, 8, 9, 10, 11], [0, 1, 2, 3, 4, 5, 6, 7, 8, 9, 10, 11, 12]] (RV.look [(5, RV.IsV (.int .u64 y))]) mixed (by kernel_rfl) (by kernel_rfl) (look_keeps _ (by simp [keepsV])) ?_
  simp (config := {maxSteps := 1000000}) only [↓zvN, zvU, ↓zqD, ↓up_apply, ↓hv_apply, ↓upO_some, ↓upO_none, ↓ev_tmp, ↓ev_const, ↓ev_func, ↓ev_global, init, Nat.reduceEqDiff, Nat.reduceAdd, Nat.reduceMul, Nat.reduceSub, ↓reduceIte, Int.reduceEq, Int.reduceNe, Nat.reduceLeDiff, one, Value.cells, Int.reduceLE, Int.reduceLT, Int.reduceToNat, add_mk, reduceCtorEq, List.mem_range'_1, true_and, and_true, and_false, false_and, Nat.reduceLT, Nat.reduceLeDiff, tyF, ca, cb, cq, cd, hlt]
  refine ⟨fun w8 hm8 => call_ok Try.call90 (hcall w8) ?_, ?_⟩
  · rintro _ w9 ⟨rfl, rfl⟩
    simp (config := {maxSteps := 1000000}) only [↓zvN, zvU, ↓zqD, ↓up_apply, ↓hv_apply, ↓upO_some, ↓upO_none, ↓ev_tmp, ↓ev_const, ↓ev_func, ↓ev_global, init, Nat.reduceEqDiff, Nat.reduceAdd, Nat.reduceMul, Nat.reduceSub, ↓reduceIte, Int.reduceEq, Int.reduceNe, Nat.reduceLeDiff, one, Value.cells, Int.reduceLE, Int.reduceLT, Int.reduceToNat, add_mk, reduceCtorEq, List.mem_range'_1, true_and, and_true, and_false, false_and, Nat.reduceLT, Nat.reduceLeDiff, tyF]
    exact ⟨More.refl _, rfl⟩
  rintro _ ⟨w8, hm8, rfl⟩
  simp (config := {maxSteps := 1000000}) only [↓zvN, zvU, ↓zqD, ↓up_apply, ↓hv_apply, ↓upO_some, ↓upO_none, ↓ev_tmp, ↓ev_const, ↓ev_func, ↓ev_global, init, Nat.reduceEqDiff, Nat.reduceAdd, Nat.reduceMul, Nat.reduceSub, ↓reduceIte, Int.reduceEq, Int.reduceNe, Nat.reduceLeDiff, one, Value.cells, Int.reduceLE, Int.reduceLT, Int.reduceToNat, add_mk, reduceCtorEq, List.mem_range'_1, true_and, and_true, and_false, false_and, Nat.reduceLT, Nat.reduceLeDiff, tyF, ca, cb, cq, cd, hlt]
  intro w9 hm9 _
  clear hm8 hcall
  have b9 := But.trans bw (But.of_more hm9)
  refine st_cell (Blk.more hw hm9) (by simp [S4.cells]) rfl fun w6 j1 j2 => ?_
  rw [s2_undef]
  try rw [hy] at j2
  rw [S4.s5] at j2
  replace hw := j2
  replace bw := But.trans b9 (But.of_wr j1)
  clear j1 j2 b9 hm9 ca cb cq cd hlt
  generalize S4.r5 t = t at hw hst ⊢
  try simp (config := {maxSteps := 1000000}) only [↓zvN, zvU, ↓up_apply, ↓hv_apply, ↓upO_some, ↓upO_none, ↓ev_tmp, ↓ev_const, ↓ev_func, ↓ev_global, init, Nat.reduceEqDiff, Nat.reduceAdd, Nat.reduceMul, Nat.reduceSub, ↓reduceIte, Int.reduceEq, Int.reduceNe, Nat.reduceLeDiff, one, Value.cells, Int.reduceLE, Int.reduceLT, Int.reduceToNat, add_mk, reduceCtorEq, List.mem_range'_1, true_and, and_true, and_false, false_and, Nat.reduceLT, Nat.reduceLeDiff, tyF]
  refine hK _ _ ?_
  clear hK K
  try simp (config := {maxSteps := 1000000}) only [↓zvN, zvU, ↓up_apply, ↓hv_apply, ↓upO_some, ↓upO_none, ↓ev_tmp, ↓ev_const, ↓ev_func, ↓ev_global, init, Nat.reduceEqDiff, Nat.reduceAdd, Nat.reduceMul, Nat.reduceSub, ↓reduceIte, Int.reduceEq, Int.reduceNe, Nat.reduceLeDiff, one, Value.cells, Int.reduceLE, Int.reduceLT, Int.reduceToNat, add_mk, reduceCtorEq, List.mem_range'_1, true_and, and_true, and_false, false_and, Nat.reduceLT, Nat.reduceLeDiff, tyF]
  have ca := Blk.cell hw 0
  have cb := Blk.cell hw 1
  have cq := Blk.cell hw 2
  have cd := Blk.cell hw 3
  have hlt := Blk.lt hw
  simp only [S4.cells, List.getElem?_cons_zero, List.getElem?_cons_succ] at ca cb cq cd
  refine draw_name fun K hK => ?_
  refine draw_seen 8 [[], [0], [0, 1], [0, 1, 2], [], [4], [4, 5], [4, 5, 6], [0, 1, 2, 3, 4, 5, 6, 7], [0, 1, 2, 3, 4, 5, 6, 7, 8], [0, 1, 2, 3, 4, 5, 6, 7, 8, 9], [0, 1, 2, 3, 4, 5, 6, 7, 8, 9, 10]] (RV.look []) mixed (by kernel_rfl) (by kernel_rfl) (look_keeps _ (by simp)) ?_
  simp (config := {maxSteps := 1000000}) only [↓zvN, zvU, ↓zqD, ↓up_apply, ↓hv_apply, ↓upO_some, ↓upO_none, ↓ev_tmp, ↓ev_const, ↓ev_func, ↓ev_global, init, Nat.reduceEqDiff, Nat.reduceAdd, Nat.reduceMul, Nat.reduceSub, ↓reduceIte, Int.reduceEq, Int.reduceNe, Nat.reduceLeDiff, one, Value.cells, Int.reduceLE, Int.reduceLT, Int.reduceToNat, add_mk, reduceCtorEq, List.mem_range'_1, true_and, and_true, and_false, false_and, Nat.reduceLT, Nat.reduceLeDiff, tyF, ca, cb, cq, cd, hlt]
  intro w9 hm9
  have b9 := But.trans bw (But.of_more hm9)
  refine st_cell (Blk.more hw hm9) (by simp [S4.cells]) rfl fun w7 j1 j2 => ?_
  rw [s2_undef]
  try rw [hy] at j2
  rw [S4.s6] at j2
  replace hw := j2
  replace bw := But.trans b9 (But.of_wr j1)
  clear j1 j2 b9 hm9 ca cb cq cd hlt
  generalize S4.r6 t = t at hw hst ⊢
  try simp (config := {maxSteps := 1000000}) only [↓zvN, zvU, ↓up_apply, ↓hv_apply, ↓upO_some, ↓upO_none, ↓ev_tmp, ↓ev_const, ↓ev_func, ↓ev_global, init, Nat.reduceEqDiff, Nat.reduceAdd, Nat.reduceMul, Nat.reduceSub, ↓reduceIte, Int.reduceEq, Int.reduceNe, Nat.reduceLeDiff, one, Value.cells, Int.reduceLE, Int.reduceLT, Int.reduceToNat, add_mk, reduceCtorEq, List.mem_range'_1, true_and, and_true, and_false, false_and, Nat.reduceLT, Nat.reduceLeDiff, tyF]
  refine hK _ _ ?_
  clear hK K
  try simp (config := {maxSteps := 1000000}) only [↓zvN, zvU, ↓up_apply, ↓hv_apply, ↓upO_some, ↓upO_none, ↓ev_tmp, ↓ev_const, ↓ev_func, ↓ev_global, init, Nat.reduceEqDiff, Nat.reduceAdd, Nat.reduceMul, Nat.reduceSub, ↓reduceIte, Int.reduceEq, Int.reduceNe, Nat.reduceLeDiff, one, Value.cells, Int.reduceLE, Int.reduceLT, Int.reduceToNat, add_mk, reduceCtorEq, List.mem_range'_1, true_and, and_true, and_false, false_and, Nat.reduceLT, Nat.reduceLeDiff, tyF]
  have ca := Blk.cell hw 0
  have cb := Blk.cell hw 1
  have cq := Blk.cell hw 2
  have cd := Blk.cell hw 3
  have hlt := Blk.lt hw
  simp only [S4.cells, List.getElem?_cons_zero, List.getElem?_cons_succ] at ca cb cq cd
  obtain ⟨y, hy⟩ : ∃ y, y = rotM t.d 21 := ⟨_, rfl⟩
  have hcall : ∀ w8, Ret Try.prog 90 #[.int .u64 t.d, .int .i64 21] w8 fun v w' => v = .int .u64 y ∧ w' = w8 := fun w8 => by rw [hy]; exact bits_rotate w8 t.d 21 (by omega)
  refine draw_name fun K hK => ?_
  refine draw_seen 11 [[], [], [1], [1, 2], [1, 2, 3], [1, 2, 3, 4], [], [6], [6, 7], [6, 7, 8], [1, 2, 3, 4, 5, 6, 7, 8, 9], [0, 1, 2, 3, 4, 5, 6, 7, 8, 9, 10], [0, 1, 2, 3, 4, 5, 6, 7, 8, 9, 10, 11], [0, 1, 2, 3, 4, 5, 6, 7, 8, 9, 10, 11, 12]] (RV.look [(5, RV.IsV (.int .u64 y))]) mixed (by kernel_rfl) (by kernel_rfl) (look_keeps _ (by simp [keepsV])) ?_
  simp (config := {maxSteps := 1000000}) only [↓zvN, zvU, ↓zqD, ↓up_apply, ↓hv_apply, ↓upO_some, ↓upO_none, ↓ev_tmp, ↓ev_const, ↓ev_func, ↓ev_global, init, Nat.reduceEqDiff, Nat.reduceAdd, Nat.reduceMul, Nat.reduceSub, ↓reduceIte, Int.reduceEq, Int.reduceNe, Nat.reduceLeDiff, one, Value.cells, Int.reduceLE, Int.reduceLT, Int.reduceToNat, add_mk, reduceCtorEq, List.mem_range'_1, true_and, and_true, and_false, false_and, Nat.reduceLT, Nat.reduceLeDiff, tyF, ca, cb, cq, cd, hlt]
  refine ⟨fun w8 hm8 => call_ok Try.call90 (hcall w8) ?_, ?_⟩
  · rintro _ w9 ⟨rfl, rfl⟩
    simp (config := {maxSteps := 1000000}) only [↓zvN, zvU, ↓zqD, ↓up_apply, ↓hv_apply, ↓upO_some, ↓upO_none, ↓ev_tmp, ↓ev_const, ↓ev_func, ↓ev_global, init, Nat.reduceEqDiff, Nat.reduceAdd, Nat.reduceMul, Nat.reduceSub, ↓reduceIte, Int.reduceEq, Int.reduceNe, Nat.reduceLeDiff, one, Value.cells, Int.reduceLE, Int.reduceLT, Int.reduceToNat, add_mk, reduceCtorEq, List.mem_range'_1, true_and, and_true, and_false, false_and, Nat.reduceLT, Nat.reduceLeDiff, tyF]
    exact ⟨More.refl _, rfl⟩
  rintro _ ⟨w8, hm8, rfl⟩
  simp (config := {maxSteps := 1000000}) only [↓zvN, zvU, ↓zqD, ↓up_apply, ↓hv_apply, ↓upO_some, ↓upO_none, ↓ev_tmp, ↓ev_const, ↓ev_func, ↓ev_global, init, Nat.reduceEqDiff, Nat.reduceAdd, Nat.reduceMul, Nat.reduceSub, ↓reduceIte, Int.reduceEq, Int.reduceNe, Nat.reduceLeDiff, one, Value.cells, Int.reduceLE, Int.reduceLT, Int.reduceToNat, add_mk, reduceCtorEq, List.mem_range'_1, true_and, and_true, and_false, false_and, Nat.reduceLT, Nat.reduceLeDiff, tyF, ca, cb, cq, cd, hlt]
  intro w9 hm9 _
  clear hm8 hcall
  have b9 := But.trans bw (But.of_more hm9)
  refine st_cell (Blk.more hw hm9) (by simp [S4.cells]) rfl fun w8 j1 j2 => ?_
  rw [s2_undef]
  try rw [hy] at j2
  rw [S4.s7] at j2
  replace hw := j2
  replace bw := But.trans b9 (But.of_wr j1)
  clear j1 j2 b9 hm9 ca cb cq cd hlt
  generalize S4.r7 t = t at hw hst ⊢
  try simp (config := {maxSteps := 1000000}) only [↓zvN, zvU, ↓up_apply, ↓hv_apply, ↓upO_some, ↓upO_none, ↓ev_tmp, ↓ev_const, ↓ev_func, ↓ev_global, init, Nat.reduceEqDiff, Nat.reduceAdd, Nat.reduceMul, Nat.reduceSub, ↓reduceIte, Int.reduceEq, Int.reduceNe, Nat.reduceLeDiff, one, Value.cells, Int.reduceLE, Int.reduceLT, Int.reduceToNat, add_mk, reduceCtorEq, List.mem_range'_1, true_and, and_true, and_false, false_and, Nat.reduceLT, Nat.reduceLeDiff, tyF]
  refine hK _ _ ?_
  clear hK K
  try simp (config := {maxSteps := 1000000}) only [↓zvN, zvU, ↓up_apply, ↓hv_apply, ↓upO_some, ↓upO_none, ↓ev_tmp, ↓ev_const, ↓ev_func, ↓ev_global, init, Nat.reduceEqDiff, Nat.reduceAdd, Nat.reduceMul, Nat.reduceSub, ↓reduceIte, Int.reduceEq, Int.reduceNe, Nat.reduceLeDiff, one, Value.cells, Int.reduceLE, Int.reduceLT, Int.reduceToNat, add_mk, reduceCtorEq, List.mem_range'_1, true_and, and_true, and_false, false_and, Nat.reduceLT, Nat.reduceLeDiff, tyF]
  have ca := Blk.cell hw 0
  have cb := Blk.cell hw 1
  have cq := Blk.cell hw 2
  have cd := Blk.cell hw 3
  have hlt := Blk.lt hw
  simp only [S4.cells, List.getElem?_cons_zero, List.getElem?_cons_succ] at ca cb cq cd
  refine draw_name fun K hK => ?_
  refine draw_seen 8 [[], [0], [0, 1], [0, 1, 2], [], [4], [4, 5], [4, 5, 6], [0, 1, 2, 3, 4, 5, 6, 7], [0, 1, 2, 3, 4, 5, 6, 7, 8], [0, 1, 2, 3, 4, 5, 6, 7, 8, 9], [0, 1, 2, 3, 4, 5, 6, 7, 8, 9, 10]] (RV.look []) mixed (by kernel_rfl) (by kernel_rfl) (look_keeps _ (by simp)) ?_
  simp (config := {maxSteps := 1000000}) only [↓zvN, zvU, ↓zqD, ↓up_apply, ↓hv_apply, ↓upO_some, ↓upO_none, ↓ev_tmp, ↓ev_const, ↓ev_func, ↓ev_global, init, Nat.reduceEqDiff, Nat.reduceAdd, Nat.reduceMul, Nat.reduceSub, ↓reduceIte, Int.reduceEq, Int.reduceNe, Nat.reduceLeDiff, one, Value.cells, Int.reduceLE, Int.reduceLT, Int.reduceToNat, add_mk, reduceCtorEq, List.mem_range'_1, true_and, and_true, and_false, false_and, Nat.reduceLT, Nat.reduceLeDiff, tyF, ca, cb, cq, cd, hlt]
  intro w9 hm9
  have b9 := But.trans bw (But.of_more hm9)
  refine st_cell (Blk.more hw hm9) (by simp [S4.cells]) rfl fun w9 j1 j2 => ?_
  rw [s2_undef]
  try rw [hy] at j2
  rw [S4.s8] at j2
  replace hw := j2
  replace bw := But.trans b9 (But.of_wr j1)
  clear j1 j2 b9 hm9 ca cb cq cd hlt
  generalize S4.r8 t = t at hw hst ⊢
  try simp (config := {maxSteps := 1000000}) only [↓zvN, zvU, ↓up_apply, ↓hv_apply, ↓upO_some, ↓upO_none, ↓ev_tmp, ↓ev_const, ↓ev_func, ↓ev_global, init, Nat.reduceEqDiff, Nat.reduceAdd, Nat.reduceMul, Nat.reduceSub, ↓reduceIte, Int.reduceEq, Int.reduceNe, Nat.reduceLeDiff, one, Value.cells, Int.reduceLE, Int.reduceLT, Int.reduceToNat, add_mk, reduceCtorEq, List.mem_range'_1, true_and, and_true, and_false, false_and, Nat.reduceLT, Nat.reduceLeDiff, tyF]
  refine hK _ _ ?_
  clear hK K
  try simp (config := {maxSteps := 1000000}) only [↓zvN, zvU, ↓up_apply, ↓hv_apply, ↓upO_some, ↓upO_none, ↓ev_tmp, ↓ev_const, ↓ev_func, ↓ev_global, init, Nat.reduceEqDiff, Nat.reduceAdd, Nat.reduceMul, Nat.reduceSub, ↓reduceIte, Int.reduceEq, Int.reduceNe, Nat.reduceLeDiff, one, Value.cells, Int.reduceLE, Int.reduceLT, Int.reduceToNat, add_mk, reduceCtorEq, List.mem_range'_1, true_and, and_true, and_false, false_and, Nat.reduceLT, Nat.reduceLeDiff, tyF]
  have ca := Blk.cell hw 0
  have cb := Blk.cell hw 1
  have cq := Blk.cell hw 2
  have cd := Blk.cell hw 3
  have hlt := Blk.lt hw
  simp only [S4.cells, List.getElem?_cons_zero, List.getElem?_cons_succ] at ca cb cq cd
  obtain ⟨y, hy⟩ : ∃ y, y = rotM t.b 17 := ⟨_, rfl⟩
  have hcall : ∀ w8, Ret Try.prog 90 #[.int .u64 t.b, .int .i64 17] w8 fun v w' => v = .int .u64 y ∧ w' = w8 := fun w8 => by rw [hy]; exact bits_rotate w8 t.b 17 (by omega)
  refine draw_name fun K hK => ?_
  refine draw_seen 11 [[], [], [1], [1, 2], [1, 2, 3], [1, 2, 3, 4], [], [6], [6, 7], [6, 7, 8], [1, 2, 3, 4, 5, 6, 7, 8, 9], [0, 1, 2, 3, 4, 5, 6, 7, 8, 9, 10], [0, 1, 2, 3, 4, 5, 6, 7, 8, 9, 10, 11], [0, 1, 2, 3, 4, 5, 6, 7, 8, 9, 10, 11, 12]] (RV.look [(5, RV.IsV (.int .u64 y))]) mixed (by kernel_rfl) (by kernel_rfl) (look_keeps _ (by simp [keepsV])) ?_
  simp (config := {maxSteps := 1000000}) only [↓zvN, zvU, ↓zqD, ↓up_apply, ↓hv_apply, ↓upO_some, ↓upO_none, ↓ev_tmp, ↓ev_const, ↓ev_func, ↓ev_global, init, Nat.reduceEqDiff, Nat.reduceAdd, Nat.reduceMul, Nat.reduceSub, ↓reduceIte, Int.reduceEq, Int.reduceNe, Nat.reduceLeDiff, one, Value.cells, Int.reduceLE, Int.reduceLT, Int.reduceToNat, add_mk, reduceCtorEq, List.mem_range'_1, true_and, and_true, and_false, false_and, Nat.reduceLT, Nat.reduceLeDiff, tyF, ca, cb, cq, cd, hlt]
  refine ⟨fun w8 hm8 => call_ok Try.call90 (hcall w8) ?_, ?_⟩
  · rintro _ w9 ⟨rfl, rfl⟩
    simp (config := {maxSteps := 1000000}) only [↓zvN, zvU, ↓zqD, ↓up_apply, ↓hv_apply, ↓upO_some, ↓upO_none, ↓ev_tmp, ↓ev_const, ↓ev_func, ↓ev_global, init, Nat.reduceEqDiff, Nat.reduceAdd, Nat.reduceMul, Nat.reduceSub, ↓reduceIte, Int.reduceEq, Int.reduceNe, Nat.reduceLeDiff, one, Value.cells, Int.reduceLE, Int.reduceLT, Int.reduceToNat, add_mk, reduceCtorEq, List.mem_range'_1, true_and, and_true, and_false, false_and, Nat.reduceLT, Nat.reduceLeDiff, tyF]
    exact ⟨More.refl _, rfl⟩
  rintro _ ⟨w8, hm8, rfl⟩
  simp (config := {maxSteps := 1000000}) only [↓zvN, zvU, ↓zqD, ↓up_apply, ↓hv_apply, ↓upO_some, ↓upO_none, ↓ev_tmp, ↓ev_const, ↓ev_func, ↓ev_global, init, Nat.reduceEqDiff, Nat.reduceAdd, Nat.reduceMul, Nat.reduceSub, ↓reduceIte, Int.reduceEq, Int.reduceNe, Nat.reduceLeDiff, one, Value.cells, Int.reduceLE, Int.reduceLT, Int.reduceToNat, add_mk, reduceCtorEq, List.mem_range'_1, true_and, and_true, and_false, false_and, Nat.reduceLT, Nat.reduceLeDiff, tyF, ca, cb, cq, cd, hlt]
  intro w9 hm9 _
  clear hm8 hcall
  have b9 := But.trans bw (But.of_more hm9)
  refine st_cell (Blk.more hw hm9) (by simp [S4.cells]) rfl fun w10 j1 j2 => ?_
  rw [s2_undef]
  try rw [hy] at j2
  rw [S4.s9] at j2
  replace hw := j2
  replace bw := But.trans b9 (But.of_wr j1)
  clear j1 j2 b9 hm9 ca cb cq cd hlt
  generalize S4.r9 t = t at hw hst ⊢
  try simp (config := {maxSteps := 1000000}) only [↓zvN, zvU, ↓up_apply, ↓hv_apply, ↓upO_some, ↓upO_none, ↓ev_tmp, ↓ev_const, ↓ev_func, ↓ev_global, init, Nat.reduceEqDiff, Nat.reduceAdd, Nat.reduceMul, Nat.reduceSub, ↓reduceIte, Int.reduceEq, Int.reduceNe, Nat.reduceLeDiff, one, Value.cells, Int.reduceLE, Int.reduceLT, Int.reduceToNat, add_mk, reduceCtorEq, List.mem_range'_1, true_and, and_true, and_false, false_and, Nat.reduceLT, Nat.reduceLeDiff, tyF]
  refine hK _ _ ?_
  clear hK K
  try simp (config := {maxSteps := 1000000}) only [↓zvN, zvU, ↓up_apply, ↓hv_apply, ↓upO_some, ↓upO_none, ↓ev_tmp, ↓ev_const, ↓ev_func, ↓ev_global, init, Nat.reduceEqDiff, Nat.reduceAdd, Nat.reduceMul, Nat.reduceSub, ↓reduceIte, Int.reduceEq, Int.reduceNe, Nat.reduceLeDiff, one, Value.cells, Int.reduceLE, Int.reduceLT, Int.reduceToNat, add_mk, reduceCtorEq, List.mem_range'_1, true_and, and_true, and_false, false_and, Nat.reduceLT, Nat.reduceLeDiff, tyF]
  have ca := Blk.cell hw 0
  have cb := Blk.cell hw 1
  have cq := Blk.cell hw 2
  have cd := Blk.cell hw 3
  have hlt := Blk.lt hw
  simp only [S4.cells, List.getElem?_cons_zero, List.getElem?_cons_succ] at ca cb cq cd
  try simp (config := {maxSteps := 1000000}) only [↓zvN, zvU, ↓up_apply, ↓hv_apply, ↓upO_some, ↓upO_none, ↓ev_tmp, ↓ev_const, ↓ev_func, ↓ev_global, init, Nat.reduceEqDiff, Nat.reduceAdd, Nat.reduceMul, Nat.reduceSub, ↓reduceIte, Int.reduceEq, Int.reduceNe, Nat.reduceLeDiff, one, Value.cells, Int.reduceLE, Int.reduceLT, Int.reduceToNat, add_mk, reduceCtorEq, List.mem_range'_1, true_and, and_true, and_false, false_and, Nat.reduceLT, Nat.reduceLeDiff, tyF, ca, cb, cq, cd]
  refine call_ok Try.call90 (bits_rotate _ t.c 32 (by omega)) ?_
  rintro _ w9 ⟨rfl, rfl⟩
  have hm9 := More.refl w9
  simp (config := {maxSteps := 1000000}) only [↓zvN, zvU, ↓up_apply, ↓hv_apply, ↓upO_some, ↓upO_none, ↓ev_tmp, ↓ev_const, ↓ev_func, ↓ev_global, init, Nat.reduceEqDiff, Nat.reduceAdd, Nat.reduceMul, Nat.reduceSub, ↓reduceIte, Int.reduceEq, Int.reduceNe, Nat.reduceLeDiff, one, Value.cells, Int.reduceLE, Int.reduceLT, Int.reduceToNat, add_mk, reduceCtorEq, List.mem_range'_1, true_and, and_true, and_false, false_and, Nat.reduceLT, Nat.reduceLeDiff, tyF]
  have b9 := But.trans bw (But.of_more hm9)
  refine st_cell (Blk.more hw hm9) (by simp [S4.cells]) rfl fun w11 j1 j2 => ?_
  rw [s2_undef]
  try rw [hy] at j2
  rw [S4.s10] at j2
  replace hw := j2
  replace bw := But.trans b9 (But.of_wr j1)
  clear j1 j2 b9 hm9 ca cb cq cd hlt
  generalize S4.r10 t = t at hw hst ⊢
  try simp (config := {maxSteps := 1000000}) only [↓zvN, zvU, ↓up_apply, ↓hv_apply, ↓upO_some, ↓upO_none, ↓ev_tmp, ↓ev_const, ↓ev_func, ↓ev_global, init, Nat.reduceEqDiff, Nat.reduceAdd, Nat.reduceMul, Nat.reduceSub, ↓reduceIte, Int.reduceEq, Int.reduceNe, Nat.reduceLeDiff, one, Value.cells, Int.reduceLE, Int.reduceLT, Int.reduceToNat, add_mk, reduceCtorEq, List.mem_range'_1, true_and, and_true, and_false, false_and, Nat.reduceLT, Nat.reduceLeDiff, tyF]
  simp (config := {maxSteps := 1000000}) only [↓zvN, zvU, ↓up_apply, ↓hv_apply, ↓upO_some, ↓upO_none, ↓ev_tmp, ↓ev_const, ↓ev_func, ↓ev_global, init, Nat.reduceEqDiff, Nat.reduceAdd, Nat.reduceMul, Nat.reduceSub, ↓reduceIte, Int.reduceEq, Int.reduceNe, Nat.reduceLeDiff, one, Value.cells, Int.reduceLE, Int.reduceLT, Int.reduceToNat, add_mk, reduceCtorEq, List.mem_range'_1, true_and, and_true, and_false, false_and, Nat.reduceLT, Nat.reduceLeDiff, tyF, h5, ek]
  refine ⟨⟨?_, k + 1, rfl, by omega, by rw [hst]; exact hw, bw⟩, by simp only [numOf]; omega⟩
  repeat (first | exact Same.hv _ _ _ | refine Same.up (by simp) ?_)
end Go.Proofs.Ytimhcjakpdebjaa
