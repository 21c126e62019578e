/-
  Texts that the law stands on, part 11.
-/
import Derived.Test.YtofhbonnojooeaaGreatKPoliceBoxed10
import Derived.Lib.AppendZerosOnto
namespace Go.Proofs.YtofhbonnojooeaaGreat
open Go Go.RowKit Go.Proofs.RV
set_option linter.unusedSimpArgs false
set_option linter.unusedVariables false
set_option maxRecDepth 10000
set_option maxHeartbeats 4000000
theorem wrapu_range (x : Int) : 0 ≤ IntKind.u64.wrap x ∧ IntKind.u64.wrap x < 18446744073709551616 := by
  simp [IntKind.wrap, IntKind.signed, IntKind.bits]
  omega
theorem bits_range (op : BinOp) (x y : Int) : 0 ≤ bits op .u64 x y ∧ bits op .u64 x y < 18446744073709551616 := by
  unfold bits
  exact wrapu_range _
def xorM (x y : Int) : Int := bits .xor .u64 x y
def orM (x y : Int) : Int := bits .or .u64 x y
def rotM (x : Int) (k : Nat) : Int := orM (IntKind.u64.wrap (x * 2 ^ min k 64)) (x.fdiv (2 ^ min (64 - k) 64))
theorem bits_rotate (w : World) (x : Int) (k : Nat) (hk : k < 64) : Ret Tryz.prog 252 #[.int .u64 x, .int .i64 k] w fun v w' => v = .int .u64 (rotM x k) ∧ w' = w := by
  refine ret_of Tryz.func252 rfl (by kernel_rfl) (Nat.le_of_ble_eq_true (by kernel_rfl)) ?_
  have e1 : IntKind.u64.wrap (k : Int) = k := wu64 (by omega) (by omega)
  have e2 : bits .and .u64 (k : Int) 63 = (k : Int) := by
    have := and_mask (k := .u64) (x := (k : Int)) 6 (by omega) (by simp [IntKind.max, IntKind.signed, IntKind.bits]; omega) (by decide)
    rw [show ((2 ^ 6 - 1 : Nat) : Int) = 63 from rfl] at this
    rw [this]
    show (k : Int) % 64 = k
    omega
  have e3 : IntKind.u64.wrap (64 - (k : Int)) = ((64 - k : Nat) : Int) := by rw [show (64 : Int) - (k : Int) = ((64 - k : Nat) : Int) by omega]; exact wu64 (by omega) (by omega)
  have g0 : (0 : Int) ≤ (k : Int) := by omega
  have g1 : (0 : Int) ≤ ((64 - k : Nat) : Int) := by omega
  simp -implicitDefEqProofs (maxSteps := 1000000) only [↓zvN, zvU, ↓zvE, zvM, init, one, Value.cells, simprocAttr, tyF, e1, e2, e3, g0, g1, Int.toNat_natCast]
  rfl
structure S4 where
  a : Int
  b : Int
  c : Int
  d : Int
def S4.cells (s : S4) : List Value := [.int .u64 s.a, .int .u64 s.b, .int .u64 s.c, .int .u64 s.d]
def waddM (x y : Int) : Int := IntKind.u64.wrap (x + y)
def S4.r1 (s : S4) : S4 := { s with a := waddM s.a s.b }
def S4.r2 (s : S4) : S4 := { s with b := xorM (rotM s.b 13) s.a }
def S4.r3 (s : S4) : S4 := { s with a := rotM s.a 32 }
def S4.r4 (s : S4) : S4 := { s with c := waddM s.c s.d }
def S4.r5 (s : S4) : S4 := { s with d := xorM (rotM s.d 16) s.c }
def S4.r6 (s : S4) : S4 := { s with a := waddM s.a s.d }
def S4.r7 (s : S4) : S4 := { s with d := xorM (rotM s.d 21) s.a }
def S4.r8 (s : S4) : S4 := { s with c := waddM s.c s.b }
def S4.r9 (s : S4) : S4 := { s with b := xorM (rotM s.b 17) s.c }
def S4.r10 (s : S4) : S4 := { s with c := rotM s.c 32 }
def S4.round (s : S4) : S4 := s.r1.r2.r3.r4.r5.r6.r7.r8.r9.r10
def S4.rounds : Nat → S4 → S4
  | 0, s => s
  | n + 1, s => (S4.rounds n s).round
theorem S4.s1 (t : S4) : t.cells.set 0 (.int .u64 (IntKind.u64.wrap (t.a + t.b))) = t.r1.cells := rfl
theorem S4.s2 (t : S4) : t.cells.set 1 (.int .u64 (bits .xor .u64 (rotM t.b 13) t.a)) = t.r2.cells := rfl
theorem S4.s3 (t : S4) : t.cells.set 0 (.int .u64 (rotM t.a 32)) = t.r3.cells := rfl
theorem S4.s4 (t : S4) : t.cells.set 2 (.int .u64 (IntKind.u64.wrap (t.c + t.d))) = t.r4.cells := rfl
theorem S4.s5 (t : S4) : t.cells.set 3 (.int .u64 (bits .xor .u64 (rotM t.d 16) t.c)) = t.r5.cells := rfl
theorem S4.s6 (t : S4) : t.cells.set 0 (.int .u64 (IntKind.u64.wrap (t.a + t.d))) = t.r6.cells := rfl
theorem S4.s7 (t : S4) : t.cells.set 3 (.int .u64 (bits .xor .u64 (rotM t.d 21) t.a)) = t.r7.cells := rfl
theorem S4.s8 (t : S4) : t.cells.set 2 (.int .u64 (IntKind.u64.wrap (t.c + t.b))) = t.r8.cells := rfl
theorem S4.s9 (t : S4) : t.cells.set 1 (.int .u64 (bits .xor .u64 (rotM t.b 17) t.c)) = t.r9.cells := rfl
theorem S4.s10 (t : S4) : t.cells.set 2 (.int .u64 (rotM t.c 32)) = t.r10.cells := rfl
def RoundJ (s : S4) (n : Nat) (w : World) (q : Nat) (v : Value) (w' : World) : Prop := ∃ k : Nat, v = .int .i64 k ∧ k ≤ n ∧ Blk w' q 370 (S4.rounds k s).cells ∧ But q w w'
theorem sip_round (w : World) (q : Nat) (s : S4) (n : Nat) (hb : Blk w q 370 s.cells) (hn : n ≤ 1000) :
    Ret Tryz.prog 237 #[.pointer (some ⟨q, 0, none⟩), .int .i64 n] w fun v w' => v = .tuple #[] ∧ Blk w' q 370 (S4.rounds n s).cells ∧ But q w w' := by
  refine ret_of Tryz.func237 rfl (by kernel_rfl) (Nat.le_of_ble_eq_true (by kernel_rfl)) ?_
  simp -implicitDefEqProofs (maxSteps := 1000000) only [↓zvN, zvU, ↓zvE, zvM, init, one, Value.cells, simprocAttr, tyF]
  refine loop_p (5 :: List.range' 6 114) (fun e w' => RoundJ s n w q (e 5) w') (fun e _ => n - (numOf (e 5)).toNat) ?_ ?_
  · exact ⟨0, by simp only [hv_apply, up_apply, upO_some, upO_none, init, List.mem_cons, List.mem_range'_1, true_and, and_true, and_false, false_and, Nat.reduceLT, Nat.reduceLeDiff, Nat.reduceAdd, true_or, or_true, if_true, if_false, ↓reduceIte, Nat.reduceEqDiff, false_or, or_false, List.not_mem_nil, List.getElem?_cons_zero, List.getElem?_cons_succ, Option.getD_some] <;> rfl, by omega, hb, But.refl _ _⟩
  rintro v w1 ⟨k, h5, hk, hw, bw⟩
  simp only [hv_apply, up_apply, upO_some, upO_none, init, List.mem_cons, List.mem_range'_1, true_and, and_true, and_false, false_and, Nat.reduceLT, Nat.reduceLeDiff, Nat.reduceAdd, true_or, or_true, if_true, if_false, ↓reduceIte, Nat.reduceEqDiff, false_or, or_false, List.not_mem_nil, List.getElem?_cons_zero, List.getElem?_cons_succ, Option.getD_some] at h5
  have ek : IntKind.i64.wrap ((k : Int) + 1) = ((k + 1 : Nat) : Int) := w64 (by omega) (by omega)
  simp -implicitDefEqProofs (maxSteps := 1000000) only [↓zvN, zvU, ↓zvE, zvM, init, one, Value.cells, simprocAttr, tyF, h5]
  refine ⟨fun h9 => ?_, fun h9 => ?_⟩
  rotate_left
  · obtain rfl : k = n := by omega
    exact ⟨hw, bw⟩
  have hstep : S4.rounds (k + 1) s = (S4.rounds k s).round := rfl
  generalize S4.rounds k s = t at *
  have hst : S4.rounds (k + 1) s = t.r1.r2.r3.r4.r5.r6.r7.r8.r9.r10 := hstep
  clear hstep
  have ca := Blk.cell hw 0
  have cb := Blk.cell hw 1
  have cq := Blk.cell hw 2
  have cd := Blk.cell hw 3
  have hlt := Blk.lt hw
  simp only [S4.cells, List.getElem?_cons_zero, List.getElem?_cons_succ] at ca cb cq cd
  refine draw_name fun K hK => ?_
  refine draw_seen 8 [[], [0], [0, 1], [0, 1, 2], [], [4], [4, 5], [4, 5, 6], [0, 1, 2, 3, 4, 5, 6, 7], [0, 1, 2, 3, 4, 5, 6, 7, 8], [0, 1, 2, 3, 4, 5, 6, 7, 8, 9], [0, 1, 2, 3, 4, 5, 6, 7, 8, 9, 10]] (RV.look []) mixed (by kernel_rfl) (by kernel_rfl) (look_keeps _ (by simp)) ?_
  simp -implicitDefEqProofs (maxSteps := 1000000) only [↓zvN, zvU, ↓zqD, ↓zvE, zvM, init, one, Value.cells, simprocAttr, tyF, ca, cb, cq, cd, hlt]
  intro w9 hm9
  have b9 := But.trans bw (But.of_more hm9)
  refine st_cell (Blk.more hw hm9) (by simp [S4.cells]) rfl fun w2 j1 j2 => ?_
  rw [s2_undef]
  try rw [hy] at j2
  rw [S4.s1] at j2
  replace hw := j2
  replace bw := But.trans b9 (But.of_wr j1)
  clear j1 j2 b9 hm9 ca cb cq cd hlt
  generalize S4.r1 t = t at hw hst ⊢
  try simp -implicitDefEqProofs (maxSteps := 1000000) only [↓zvN, zvU, ↓zvE, zvM, init, one, Value.cells, simprocAttr, tyF]
  refine hK _ _ ?_
  clear hK K
  try simp -implicitDefEqProofs (maxSteps := 1000000) only [↓zvN, zvU, ↓zvE, zvM, init, one, Value.cells, simprocAttr, tyF]
  have ca := Blk.cell hw 0
  have cb := Blk.cell hw 1
  have cq := Blk.cell hw 2
  have cd := Blk.cell hw 3
  have hlt := Blk.lt hw
  simp only [S4.cells, List.getElem?_cons_zero, List.getElem?_cons_succ] at ca cb cq cd
  obtain ⟨y, hy⟩ : ∃ y, y = rotM t.b 13 := ⟨_, rfl⟩
  have hcall : ∀ w8, Ret Tryz.prog 252 #[.int .u64 t.b, .int .i64 13] w8 fun v w' => v = .int .u64 y ∧ w' = w8 := fun w8 => by rw [hy]; exact bits_rotate w8 t.b 13 (by omega)
  refine draw_name fun K hK => ?_
  refine draw_seen 11 [[], [], [1], [1, 2], [1, 2, 3], [1, 2, 3, 4], [], [6], [6, 7], [6, 7, 8], [1, 2, 3, 4, 5, 6, 7, 8, 9], [0, 1, 2, 3, 4, 5, 6, 7, 8, 9, 10], [0, 1, 2, 3, 4, 5, 6, 7, 8, 9, 10, 11], [0, 1, 2, 3, 4, 5, 6, 7, 8, 9, 10, 11, 12]] (RV.look [(5, RV.IsV (.int .u64 y))]) mixed (by kernel_rfl) (by kernel_rfl) (look_keeps _ (by simp [keepsV])) ?_
  simp -implicitDefEqProofs (maxSteps := 1000000) only [↓zvN, zvU, ↓zqD, ↓zvE, zvM, init, one, Value.cells, simprocAttr, tyF, ca, cb, cq, cd, hlt]
  refine ⟨fun w8 hm8 => call_ok Tryz.call252 (hcall w8) ?_, ?_⟩
  · rintro _ w9 ⟨rfl, rfl⟩
    simp -implicitDefEqProofs (maxSteps := 1000000) only [↓zvN, zvU, ↓zqD, ↓zvE, zvM, init, one, Value.cells, simprocAttr, tyF]
    exact ⟨More.refl _, rfl⟩
  rintro _ ⟨w8, hm8, rfl⟩
  simp -implicitDefEqProofs (maxSteps := 1000000) only [↓zvN, zvU, ↓zqD, ↓zvE, zvM, init, one, Value.cells, simprocAttr, tyF, ca, cb, cq, cd, hlt]
  intro w9 hm9 _
  clear hm8 hcall
  have b9 := But.trans bw (But.of_more hm9)
  refine st_cell (Blk.more hw hm9) (by simp [S4.cells]) rfl fun w3 j1 j2 => ?_
  rw [s2_undef]
  try rw [hy] at j2
  rw [S4.s2] at j2
  replace hw := j2
  replace bw := But.trans b9 (But.of_wr j1)
  clear j1 j2 b9 hm9 ca cb cq cd hlt
  generalize S4.r2 t = t at hw hst ⊢
  try simp -implicitDefEqProofs (maxSteps := 1000000) only [↓zvN, zvU, ↓zvE, zvM, init, one, Value.cells, simprocAttr, tyF]
  refine hK _ _ ?_
  clear hK K
  try simp -implicitDefEqProofs (maxSteps := 1000000) only [↓zvN, zvU, ↓zvE, zvM, init, one, Value.cells, simprocAttr, tyF]
  have ca := Blk.cell hw 0
  have cb := Blk.cell hw 1
  have cq := Blk.cell hw 2
  have cd := Blk.cell hw 3
  have hlt := Blk.lt hw
  simp only [S4.cells, List.getElem?_cons_zero, List.getElem?_cons_succ] at ca cb cq cd
  try simp -implicitDefEqProofs (maxSteps := 1000000) only [↓zvN, zvU, ↓zvE, zvM, init, one, Value.cells, simprocAttr, tyF, ca, cb, cq, cd]
  refine call_ok Tryz.call252 (bits_rotate _ t.a 32 (by omega)) ?_
  rintro _ w9 ⟨rfl, rfl⟩
  have hm9 := More.refl w9
  simp -implicitDefEqProofs (maxSteps := 1000000) only [↓zvN, zvU, ↓zvE, zvM, init, one, Value.cells, simprocAttr, tyF]
  have b9 := But.trans bw (But.of_more hm9)
  refine st_cell (Blk.more hw hm9) (by simp [S4.cells]) rfl fun w4 j1 j2 => ?_
  rw [s2_undef]
  try rw [hy] at j2
  rw [S4.s3] at j2
  replace hw := j2
  replace bw := But.trans b9 (But.of_wr j1)
  clear j1 j2 b9 hm9 ca cb cq cd hlt
  generalize S4.r3 t = t at hw hst ⊢
  try simp -implicitDefEqProofs (maxSteps := 1000000) only [↓zvN, zvU, ↓zvE, zvM, init, one, Value.cells, simprocAttr, tyF]
  have ca := Blk.cell hw 0
  have cb := Blk.cell hw 1
  have cq := Blk.cell hw 2
  have cd := Blk.cell hw 3
  have hlt := Blk.lt hw
  simp only [S4.cells, List.getElem?_cons_zero, List.getElem?_cons_succ] at ca cb cq cd
  refine draw_name fun K hK => ?_
  refine draw_seen 8 [[], [0], [0, 1], [0, 1, 2], [], [4], [4, 5], [4, 5, 6], [0, 1, 2, 3, 4, 5, 6, 7], [0, 1, 2, 3, 4, 5, 6, 7, 8], [0, 1, 2, 3, 4, 5, 6, 7, 8, 9], [0, 1, 2, 3, 4, 5, 6, 7, 8, 9, 10]] (RV.look []) mixed (by kernel_rfl) (by kernel_rfl) (look_keeps _ (by simp)) ?_
  simp -implicitDefEqProofs (maxSteps := 1000000) only [↓zvN, zvU, ↓zqD, ↓zvE, zvM, init, one, Value.cells, simprocAttr, tyF, ca, cb, cq, cd, hlt]
  intro w9 hm9
  have b9 := But.trans bw (But.of_more hm9)
  refine st_cell (Blk.more hw hm9) (by simp [S4.cells]) rfl fun w5 j1 j2 => ?_
  rw [s2_undef]
  try rw [hy] at j2
  rw [S4.s4] at j2
  replace hw := j2
  replace bw := But.trans b9 (But.of_wr j1)
  clear j1 j2 b9 hm9 ca cb cq cd hlt
  generalize S4.r4 t = t at hw hst ⊢
  try simp -implicitDefEqProofs (maxSteps := 1000000) only [↓zvN, zvU, ↓zvE, zvM, init, one, Value.cells, simprocAttr, tyF]
  refine hK _ _ ?_
  clear hK K
  try simp -implicitDefEqProofs (maxSteps := 1000000) only [↓zvN, zvU, ↓zvE, zvM, init, one, Value.cells, simprocAttr, tyF]
  have ca := Blk.cell hw 0
  have cb := Blk.cell hw 1
  have cq := Blk.cell hw 2
  have cd := Blk.cell hw 3
  have hlt := Blk.lt hw
  simp only [S4.cells, List.getElem?_cons_zero, List.getElem?_cons_succ] at ca cb cq cd
  obtain ⟨y, hy⟩ : ∃ y, y = rotM t.d 16 := ⟨_, rfl⟩
  have hcall : ∀ w8, Ret Tryz.prog 252 #[.int .u64 t.d, .int .i64 16] w8 fun v w' => v = .int .u64 y ∧ w' = w8 := fun w8 => by rw [hy]; exact bits_rotate w8 t.d 16 (by omega)
  refine draw_name fun K hK => ?_
  refine draw_seen 11 [[], [], [1], [1, 2], [1, 2, 3], [1, 2, 3, 4], [], [6], [6, 7], [6, 7, 8], [1, 2, 3, 4, 5, 6, 7, 8, 9], [0, 1, 2, 3, 4, 5, 6, 7, 8, 9, 10], [0, 1, 2, 3, 4, 5, 6, 7, 8, 9, 10, 11], [0, 1, 2, 3, 4, 5, 6, 7, 8, 9, 10, 11, 12]] (RV.look [(5, RV.IsV (.int .u64 y))]) mixed (by kernel_rfl) (by kernel_rfl) (look_keeps _ (by simp [keepsV])) ?_
  simp -implicitDefEqProofs (maxSteps := 1000000) only [↓zvN, zvU, ↓zqD, ↓zvE, zvM, init, one, Value.cells, simprocAttr, tyF, ca, cb, cq, cd, hlt]
  refine ⟨fun w8 hm8 => call_ok Tryz.call252 (hcall w8) ?_, ?_⟩
  · rintro _ w9 ⟨rfl, rfl⟩
    simp -implicitDefEqProofs (maxSteps := 1000000) only [↓zvN, zvU, ↓zqD, ↓zvE, zvM, init, one, Value.cells, simprocAttr, tyF]
    exact ⟨More.refl _, rfl⟩
  rintro _ ⟨w8, hm8, rfl⟩
  simp -implicitDefEqProofs (maxSteps := 1000000) only [↓zvN, zvU, ↓zqD, ↓zvE, zvM, init, one, Value.cells, simprocAttr, tyF, ca, cb, cq, cd, hlt]
  intro w9 hm9 _
  clear hm8 hcall
  have b9 := But.trans bw (But.of_more hm9)
  refine st_cell (Blk.more hw hm9) (by simp [S4.cells]) rfl fun w6 j1 j2 => ?_
  rw [s2_undef]
  try rw [hy] at j2
  rw [S4.s5] at j2
  replace hw := j2
  replace bw := But.trans b9 (But.of_wr j1)
  clear j1 j2 b9 hm9 ca cb cq cd hlt
  generalize S4.r5 t = t at hw hst ⊢
  try simp -implicitDefEqProofs (maxSteps := 1000000) only [↓zvN, zvU, ↓zvE, zvM, init, one, Value.cells, simprocAttr, tyF]
  refine hK _ _ ?_
  clear hK K
  try simp -implicitDefEqProofs (maxSteps := 1000000) only [↓zvN, zvU, ↓zvE, zvM, init, one, Value.cells, simprocAttr, tyF]
  have ca := Blk.cell hw 0
  have cb := Blk.cell hw 1
  have cq := Blk.cell hw 2
  have cd := Blk.cell hw 3
  have hlt := Blk.lt hw
  simp only [S4.cells, List.getElem?_cons_zero, List.getElem?_cons_succ] at ca cb cq cd
  refine draw_name fun K hK => ?_
  refine draw_seen 8 [[], [0], [0, 1], [0, 1, 2], [], [4], [4, 5], [4, 5, 6], [0, 1, 2, 3, 4, 5, 6, 7], [0, 1, 2, 3, 4, 5, 6, 7, 8], [0, 1, 2, 3, 4, 5, 6, 7, 8, 9], [0, 1, 2, 3, 4, 5, 6, 7, 8, 9, 10]] (RV.look []) mixed (by kernel_rfl) (by kernel_rfl) (look_keeps _ (by simp)) ?_
  simp -implicitDefEqProofs (maxSteps := 1000000) only [↓zvN, zvU, ↓zqD, ↓zvE, zvM, init, one, Value.cells, simprocAttr, tyF, ca, cb, cq, cd, hlt]
  intro w9 hm9
  have b9 := But.trans bw (But.of_more hm9)
  refine st_cell (Blk.more hw hm9) (by simp [S4.cells]) rfl fun w7 j1 j2 => ?_
  rw [s2_undef]
  try rw [hy] at j2
  rw [S4.s6] at j2
  replace hw := j2
  replace bw := But.trans b9 (But.of_wr j1)
  clear j1 j2 b9 hm9 ca cb cq cd hlt
  generalize S4.r6 t = t at hw hst ⊢
  try simp -implicitDefEqProofs (maxSteps := 1000000) only [↓zvN, zvU, ↓zvE, zvM, init, one, Value.cells, simprocAttr, tyF]
  refine hK _ _ ?_
  clear hK K
  try simp -implicitDefEqProofs (maxSteps := 1000000) only [↓zvN, zvU, ↓zvE, zvM, init, one, Value.cells, simprocAttr, tyF]
  have ca := Blk.cell hw 0
  have cb := Blk.cell hw 1
  have cq := Blk.cell hw 2
  have cd := Blk.cell hw 3
  have hlt := Blk.lt hw
  simp only [S4.cells, List.getElem?_cons_zero, List.getElem?_cons_succ] at ca cb cq cd
  obtain ⟨y, hy⟩ : ∃ y, y = rotM t.d 21 := ⟨_, rfl⟩
  have hcall : ∀ w8, Ret Tryz.prog 252 #[.int .u64 t.d, .int .i64 21] w8 fun v w' => v = .int .u64 y ∧ w' = w8 := fun w8 => by rw [hy]; exact bits_rotate w8 t.d 21 (by omega)
  refine draw_name fun K hK => ?_
  refine draw_seen 11 [[], [], [1], [1, 2], [1, 2, 3], [1, 2, 3, 4], [], [6], [6, 7], [6, 7, 8], [1, 2, 3, 4, 5, 6, 7, 8, 9], [0, 1, 2, 3, 4, 5, 6, 7, 8, 9, 10], [0, 1, 2, 3, 4, 5, 6, 7, 8, 9, 10, 11], [0, 1, 2, 3, 4, 5, 6, 7, 8, 9, 10, 11, 12]] (RV.look [(5, RV.IsV (.int .u64 y))]) mixed (by kernel_rfl) (by kernel_rfl) (look_keeps _ (by simp [keepsV])) ?_
  simp -implicitDefEqProofs (maxSteps := 1000000) only [↓zvN, zvU, ↓zqD, ↓zvE, zvM, init, one, Value.cells, simprocAttr, tyF, ca, cb, cq, cd, hlt]
  refine ⟨fun w8 hm8 => call_ok Tryz.call252 (hcall w8) ?_, ?_⟩
  · rintro _ w9 ⟨rfl, rfl⟩
    simp -implicitDefEqProofs (maxSteps := 1000000) only [↓zvN, zvU, ↓zqD, ↓zvE, zvM, init, one, Value.cells, simprocAttr, tyF]
    exact ⟨More.refl _, rfl⟩
  rintro _ ⟨w8, hm8, rfl⟩
  simp -implicitDefEqProofs (maxSteps := 1000000) only [↓zvN, zvU, ↓zqD, ↓zvE, zvM, init, one, Value.cells, simprocAttr, tyF, ca, cb, cq, cd, hlt]
  intro w9 hm9 _
  clear hm8 hcall
  have b9 := But.trans bw (But.of_more hm9)
  refine st_cell (Blk.more hw hm9) (by simp [S4.cells]) rfl fun w8 j1 j2 => ?_
  rw [s2_undef]
  try rw [hy] at j2
  rw [S4.s7] at j2
  replace hw := j2
  replace bw := But.trans b9 (But.of_wr j1)
  clear j1 j2 b9 hm9 ca cb cq cd hlt
  generalize S4.r7 t = t at hw hst ⊢
  try simp -implicitDefEqProofs (maxSteps := 1000000) only [↓zvN, zvU, ↓zvE, zvM, init, one, Value.cells, simprocAttr, tyF]
  refine hK _ _ ?_
  clear hK K
  try simp -implicitDefEqProofs (maxSteps := 1000000) only [↓zvN, zvU, ↓zvE, zvM, init, one, Value.cells, simprocAttr, tyF]
  have ca := Blk.cell hw 0
  have cb := Blk.cell hw 1
  have cq := Blk.cell hw 2
  have cd := Blk.cell hw 3
  have hlt := Blk.lt hw
  simp only [S4.cells, List.getElem?_cons_zero, List.getElem?_cons_succ] at ca cb cq cd
  refine draw_name fun K hK => ?_
  refine draw_seen 8 [[], [0], [0, 1], [0, 1, 2], [], [4], [4, 5], [4, 5, 6], [0, 1, 2, 3, 4, 5, 6, 7], [0, 1, 2, 3, 4, 5, 6, 7, 8], [0, 1, 2, 3, 4, 5, 6, 7, 8, 9], [0, 1, 2, 3, 4, 5, 6, 7, 8, 9, 10]] (RV.look []) mixed (by kernel_rfl) (by kernel_rfl) (look_keeps _ (by simp)) ?_
  simp -implicitDefEqProofs (maxSteps := 1000000) only [↓zvN, zvU, ↓zqD, ↓zvE, zvM, init, one, Value.cells, simprocAttr, tyF, ca, cb, cq, cd, hlt]
  intro w9 hm9
  have b9 := But.trans bw (But.of_more hm9)
  refine st_cell (Blk.more hw hm9) (by simp [S4.cells]) rfl fun w9 j1 j2 => ?_
  rw [s2_undef]
  try rw [hy] at j2
  rw [S4.s8] at j2
  replace hw := j2
  replace bw := But.trans b9 (But.of_wr j1)
  clear j1 j2 b9 hm9 ca cb cq cd hlt
  generalize S4.r8 t = t at hw hst ⊢
  try simp -implicitDefEqProofs (maxSteps := 1000000) only [↓zvN, zvU, ↓zvE, zvM, init, one, Value.cells, simprocAttr, tyF]
  refine hK _ _ ?_
  clear hK K
  try simp -implicitDefEqProofs (maxSteps := 1000000) only [↓zvN, zvU, ↓zvE, zvM, init, one, Value.cells, simprocAttr, tyF]
  have ca := Blk.cell hw 0
  have cb := Blk.cell hw 1
  have cq := Blk.cell hw 2
  have cd := Blk.cell hw 3
  have hlt := Blk.lt hw
  simp only [S4.cells, List.getElem?_cons_zero, List.getElem?_cons_succ] at ca cb cq cd
  obtain ⟨y, hy⟩ : ∃ y, y = rotM t.b 17 := ⟨_, rfl⟩
  have hcall : ∀ w8, Ret Tryz.prog 252 #[.int .u64 t.b, .int .i64 17] w8 fun v w' => v = .int .u64 y ∧ w' = w8 := fun w8 => by rw [hy]; exact bits_rotate w8 t.b 17 (by omega)
  refine draw_name fun K hK => ?_
  refine draw_seen 11 [[], [], [1], [1, 2], [1, 2, 3], [1, 2, 3, 4], [], [6], [6, 7], [6, 7, 8], [1, 2, 3, 4, 5, 6, 7, 8, 9], [0, 1, 2, 3, 4, 5, 6, 7, 8, 9, 10], [0, 1, 2, 3, 4, 5, 6, 7, 8, 9, 10, 11], [0, 1, 2, 3, 4, 5, 6, 7, 8, 9, 10, 11, 12]] (RV.look [(5, RV.IsV (.int .u64 y))]) mixed (by kernel_rfl) (by kernel_rfl) (look_keeps _ (by simp [keepsV])) ?_
  simp -implicitDefEqProofs (maxSteps := 1000000) only [↓zvN, zvU, ↓zqD, ↓zvE, zvM, init, one, Value.cells, simprocAttr, tyF, ca, cb, cq, cd, hlt]
  refine ⟨fun w8 hm8 => call_ok Tryz.call252 (hcall w8) ?_, ?_⟩
  · rintro _ w9 ⟨rfl, rfl⟩
    simp -implicitDefEqProofs (maxSteps := 1000000) only [↓zvN, zvU, ↓zqD, ↓zvE, zvM, init, one, Value.cells, simprocAttr, tyF]
    exact ⟨More.refl _, rfl⟩
  rintro _ ⟨w8, hm8, rfl⟩
  simp -implicitDefEqProofs (maxSteps := 1000000) only [↓zvN, zvU, ↓zqD, ↓zvE, zvM, init, one, Value.cells, simprocAttr, tyF, ca, cb, cq, cd, hlt]
  intro w9 hm9 _
  clear hm8 hcall
  have b9 := But.trans bw (But.of_more hm9)
  refine st_cell (Blk.more hw hm9) (by simp [S4.cells]) rfl fun w10 j1 j2 => ?_
  rw [s2_undef]
  try rw [hy] at j2
  rw [S4.s9] at j2
  replace hw := j2
  replace bw := But.trans b9 (But.of_wr j1)
  clear j1 j2 b9 hm9 ca cb cq cd hlt
  generalize S4.r9 t = t at hw hst ⊢
  try simp -implicitDefEqProofs (maxSteps := 1000000) only [↓zvN, zvU, ↓zvE, zvM, init, one, Value.cells, simprocAttr, tyF]
  refine hK _ _ ?_
  clear hK K
  try simp -implicitDefEqProofs (maxSteps := 1000000) only [↓zvN, zvU, ↓zvE, zvM, init, one, Value.cells, simprocAttr, tyF]
  have ca := Blk.cell hw 0
  have cb := Blk.cell hw 1
  have cq := Blk.cell hw 2
  have cd := Blk.cell hw 3
  have hlt := Blk.lt hw
  simp only [S4.cells, List.getElem?_cons_zero, List.getElem?_cons_succ] at ca cb cq cd
  try simp -implicitDefEqProofs (maxSteps := 1000000) only [↓zvN, zvU, ↓zvE, zvM, init, one, Value.cells, simprocAttr, tyF, ca, cb, cq, cd]
  refine call_ok Tryz.call252 (bits_rotate _ t.c 32 (by omega)) ?_
  rintro _ w9 ⟨rfl, rfl⟩
  have hm9 := More.refl w9
  simp -implicitDefEqProofs (maxSteps := 1000000) only [↓zvN, zvU, ↓zvE, zvM, init, one, Value.cells, simprocAttr, tyF]
  have b9 := But.trans bw (But.of_more hm9)
  refine st_cell (Blk.more hw hm9) (by simp [S4.cells]) rfl fun w11 j1 j2 => ?_
  rw [s2_undef]
  try rw [hy] at j2
  rw [S4.s10] at j2
  replace hw := j2
  replace bw := But.trans b9 (But.of_wr j1)
  clear j1 j2 b9 hm9 ca cb cq cd hlt
  generalize S4.r10 t = t at hw hst ⊢
  try simp -implicitDefEqProofs (maxSteps := 1000000) only [↓zvN, zvU, ↓zvE, zvM, init, one, Value.cells, simprocAttr, tyF]
  simp -implicitDefEqProofs (maxSteps := 1000000) only [↓zvN, zvU, ↓zvE, zvM, init, one, Value.cells, simprocAttr, tyF, h5, ek]
  refine ⟨⟨?_, k + 1, rfl, by omega, by rw [hst]; exact hw, bw⟩, by simp only [numOf]; omega⟩
  repeat (first | exact Same.hv _ _ _ | refine Same.up (by simp) ?_)
theorem ops_name {P : Program} {ops : Array Oper} {r : List Oper} {e : Env} {w : World} {K : Env → World → Prop} (h : ∀ K' : Env → World → Prop, (∀ e w, K e w → K' e w) → opsP P ops r e w (Stop K' .mk)) : opsP P ops r e w (Stop K .mk) := h K fun _ _ h => h
def numT (l : List UInt8) : Nat → Int
  | 0 => 0
  | k + 1 => orM (numT l k) (IntKind.u64.wrap (bt l k * 2 ^ min (8 * k) 64))
def NumTJ (l : List UInt8) (w : World) (v3 v8 : Value) (w' : World) : Prop := ∃ k : Nat, v8 = .int .i64 k ∧ k ≤ l.length ∧ v3 = .int .u64 (numT l k) ∧ More w w'
theorem sip_number (w : World) (A : Option Addr) (l : List UInt8) (c : Nat) (hA : Bs w A l) (hl : l.length ≤ 100) :
    Ret Tryz.prog 234 #[.slice A l.length c] w fun v w' => v = .int .u64 (numT l l.length) ∧ More w w' := by
  refine ret_of Tryz.func234 rfl (by kernel_rfl) (Nat.le_of_ble_eq_true (by kernel_rfl)) ?_
  simp -implicitDefEqProofs (maxSteps := 1000000) only [↓zvN, zvU, ↓up_apply, ↓hv_apply, ↓upO_some, ↓upO_none, ↓ev_tmp, ↓ev_const, ↓ev_func, ↓ev_global, init, Nat.reduceEqDiff, Nat.reduceAdd, Nat.reduceMul, Nat.reduceSub, ↓reduceIte, Int.reduceEq, Int.reduceNe, Nat.reduceLeDiff, one, Value.cells, Int.reduceLE, Int.reduceLT, Int.reduceToNat, add_mk, reduceCtorEq, List.mem_range'_1, true_and, and_true, and_false, false_and, Nat.reduceLT, Nat.reduceLeDiff, tyF]
  refine loop_p (3 :: 4 :: 5 :: List.range' 8 14) (fun e w' => NumTJ l w (e 3) (e 8) w') (fun e _ => l.length - (numOf (e 8)).toNat) ?_ ?_
  · exact ⟨0, by simp only [hv_apply, up_apply, upO_some, upO_none, init, List.mem_cons, List.mem_range'_1, true_and, and_true, and_false, false_and, Nat.reduceLT, Nat.reduceLeDiff, Nat.reduceAdd, true_or, or_true, if_true, if_false, ↓reduceIte, Nat.reduceEqDiff, false_or, or_false, List.not_mem_nil, List.getElem?_cons_zero, List.getElem?_cons_succ, Option.getD_some] <;> rfl, by omega, by simp only [hv_apply, up_apply, upO_some, upO_none, init, List.mem_cons, List.mem_range'_1, true_and, and_true, and_false, false_and, Nat.reduceLT, Nat.reduceLeDiff, Nat.reduceAdd, true_or, or_true, if_true, if_false, ↓reduceIte, Nat.reduceEqDiff, false_or, or_false, List.not_mem_nil, List.getElem?_cons_zero, List.getElem?_cons_succ, Option.getD_some] <;> rfl, More.refl _⟩
  rintro v w1 ⟨k, h8, hk, h3, hm1⟩
  simp only [hv_apply, up_apply, upO_some, upO_none, init, List.mem_cons, List.mem_range'_1, true_and, and_true, and_false, false_and, Nat.reduceLT, Nat.reduceLeDiff, Nat.reduceAdd, true_or, or_true, if_true, if_false, ↓reduceIte, Nat.reduceEqDiff, false_or, or_false, List.not_mem_nil, List.getElem?_cons_zero, List.getElem?_cons_succ, Option.getD_some] at h8 h3
  have ek : IntKind.i64.wrap ((k : Int) + 1) = ((k + 1 : Nat) : Int) := w64 (by omega) (by omega)
  have e8 : IntKind.i64.wrap (8 * (k : Int)) = ((8 * k : Nat) : Int) := by rw [show (8 : Int) * (k : Int) = ((8 * k : Nat) : Int) by omega]; exact w64 (by omega) (by omega)
  simp -implicitDefEqProofs (maxSteps := 1000000) only [↓zvN, zvU, ↓up_apply, ↓hv_apply, ↓upO_some, ↓upO_none, ↓ev_tmp, ↓ev_const, ↓ev_func, ↓ev_global, init, Nat.reduceEqDiff, Nat.reduceAdd, Nat.reduceMul, Nat.reduceSub, ↓reduceIte, Int.reduceEq, Int.reduceNe, Nat.reduceLeDiff, one, Value.cells, Int.reduceLE, Int.reduceLT, Int.reduceToNat, add_mk, reduceCtorEq, List.mem_range'_1, true_and, and_true, and_false, false_and, Nat.reduceLT, Nat.reduceLeDiff, tyF, h8, h3]
  refine ⟨fun h9 => ?_, fun h9 => ?_⟩
  rotate_left
  · obtain rfl : k = l.length := by omega
    exact ⟨rfl, hm1⟩
  have hk1 : k < l.length := by omega
  obtain ⟨a, rfl⟩ := hA.isAt (by omega)
  have hc := (hA.more hm1).cellN hk1
  have g0 : (0 : Int) ≤ (k : Int) := by omega
  have g1 : (0 : Int) ≤ ((8 * k : Nat) : Int) := by omega
  have eb : IntKind.u64.wrap (bt l k) = bt l k := by have := bt_nonneg l k; have := bt_lt l k; exact wu64 (by omega) (by omega)
  have hs : numT l (k + 1) = bits .or .u64 (numT l k) (IntKind.u64.wrap (bt l k * 2 ^ min (8 * k) IntKind.u64.bits)) := rfl
  generalize bt l k = x at hc eb hs
  generalize numT l k = y at h3 hs
  simp -implicitDefEqProofs (maxSteps := 1000000) only [↓zvN, zvU, ↓up_apply, ↓hv_apply, ↓upO_some, ↓upO_none, ↓ev_tmp, ↓ev_const, ↓ev_func, ↓ev_global, init, Nat.reduceEqDiff, Nat.reduceAdd, Nat.reduceMul, Nat.reduceSub, ↓reduceIte, Int.reduceEq, Int.reduceNe, Nat.reduceLeDiff, one, Value.cells, Int.reduceLE, Int.reduceLT, Int.reduceToNat, add_mk, reduceCtorEq, List.mem_range'_1, true_and, and_true, and_false, false_and, Nat.reduceLT, Nat.reduceLeDiff, tyF, h8, h3, hc, g0, g1, h9, e8, eb, ek, Int.toNat_natCast]
  refine ⟨⟨?_, k + 1, rfl, by omega, by rw [hs], hm1⟩, by simp only [numOf]; omega⟩
  repeat (first | exact Same.hv _ _ _ | refine Same.up (by simp) ?_)
def S4.word (s : S4) (m : Int) : S4 :=
  let t := S4.rounds 2 { s with d := xorM s.d m }
  { t with a := xorM t.a m }
theorem sip_word (w : World) (q : Nat) (s : S4) (m : Int) (hb : Blk w q 370 s.cells) :
    Ret Tryz.prog 236 #[.pointer (some ⟨q, 0, none⟩), .int .u64 m] w fun v w' => v = .tuple #[] ∧ Blk w' q 370 (s.word m).cells ∧ But q w w' := by
  refine ret_of Tryz.func236 rfl (by kernel_rfl) (Nat.le_of_ble_eq_true (by kernel_rfl)) ?_
  have cd := hb.cell 3
  simp only [S4.cells, List.getElem?_cons_zero, List.getElem?_cons_succ] at cd
  simp -implicitDefEqProofs (maxSteps := 1000000) only [↓zvN, zvU, ↓up_apply, ↓hv_apply, ↓upO_some, ↓upO_none, ↓ev_tmp, ↓ev_const, ↓ev_func, ↓ev_global, init, Nat.reduceEqDiff, Nat.reduceAdd, Nat.reduceMul, Nat.reduceSub, ↓reduceIte, Int.reduceEq, Int.reduceNe, Nat.reduceLeDiff, one, Value.cells, Int.reduceLE, Int.reduceLT, Int.reduceToNat, add_mk, reduceCtorEq, List.mem_range'_1, true_and, and_true, and_false, false_and, Nat.reduceLT, Nat.reduceLeDiff, tyF, cd]
  refine st_cell hb (by simp [S4.cells]) rfl fun w1 j1 j2 => ?_
  rw [s2_undef]
  replace j2 : Blk w1 q 370 (S4.mk s.a s.b s.c (xorM s.d m)).cells := j2
  simp -implicitDefEqProofs (maxSteps := 1000000) only [↓zvN, zvU, ↓up_apply, ↓hv_apply, ↓upO_some, ↓upO_none, ↓ev_tmp, ↓ev_const, ↓ev_func, ↓ev_global, init, Nat.reduceEqDiff, Nat.reduceAdd, Nat.reduceMul, Nat.reduceSub, ↓reduceIte, Int.reduceEq, Int.reduceNe, Nat.reduceLeDiff, one, Value.cells, Int.reduceLE, Int.reduceLT, Int.reduceToNat, add_mk, reduceCtorEq, List.mem_range'_1, true_and, and_true, and_false, false_and, Nat.reduceLT, Nat.reduceLeDiff, tyF]
  refine call_ok Tryz.call237 (sip_round w1 q _ 2 j2 (by omega)) ?_
  rintro _ w2 ⟨rfl, h2, b2⟩
  have hw : s.word m = { S4.rounds 2 (S4.mk s.a s.b s.c (xorM s.d m)) with a := xorM (S4.rounds 2 (S4.mk s.a s.b s.c (xorM s.d m))).a m } := rfl
  generalize S4.rounds 2 (S4.mk s.a s.b s.c (xorM s.d m)) = t at *
  have ca := h2.cell 0
  simp only [S4.cells, List.getElem?_cons_zero, List.getElem?_cons_succ] at ca
  simp -implicitDefEqProofs (maxSteps := 1000000) only [↓zvN, zvU, ↓up_apply, ↓hv_apply, ↓upO_some, ↓upO_none, ↓ev_tmp, ↓ev_const, ↓ev_func, ↓ev_global, init, Nat.reduceEqDiff, Nat.reduceAdd, Nat.reduceMul, Nat.reduceSub, ↓reduceIte, Int.reduceEq, Int.reduceNe, Nat.reduceLeDiff, one, Value.cells, Int.reduceLE, Int.reduceLT, Int.reduceToNat, add_mk, reduceCtorEq, List.mem_range'_1, true_and, and_true, and_false, false_and, Nat.reduceLT, Nat.reduceLeDiff, tyF, ca]
  refine st_cell h2 (by simp [S4.cells]) rfl fun w3 i1 i2 => ?_
  rw [s2_undef]
  simp -implicitDefEqProofs (maxSteps := 1000000) only [↓zvN, zvU, ↓up_apply, ↓hv_apply, ↓upO_some, ↓upO_none, ↓ev_tmp, ↓ev_const, ↓ev_func, ↓ev_global, init, Nat.reduceEqDiff, Nat.reduceAdd, Nat.reduceMul, Nat.reduceSub, ↓reduceIte, Int.reduceEq, Int.reduceNe, Nat.reduceLeDiff, one, Value.cells, Int.reduceLE, Int.reduceLT, Int.reduceToNat, add_mk, reduceCtorEq, List.mem_range'_1, true_and, and_true, and_false, false_and, Nat.reduceLT, Nat.reduceLeDiff, tyF]
  refine ⟨?_, ((But.of_wr j1).trans b2).trans (But.of_wr i1)⟩
  rw [hw]
  exact i2
theorem slices_grow0 (w : World) (n : Nat) (hn : n ≤ 100000) :
    Ret Tryz.prog 251 #[.slice none 0 0, .int .i64 n] w fun v w' => ∃ A c, v = .slice A 0 c ∧ Own w' w.heap.size 5 1 A 0 c [] ∧ More w w' := by
  refine ret_of Tryz.func251 rfl (by kernel_rfl) (Nat.le_of_ble_eq_true (by kernel_rfl)) ?_
  have g0 : ¬ (n : Int) < 0 := by omega
  have e1 : IntKind.i64.wrap ((n : Int) - 0) = (n : Int) := by rw [Int.sub_zero]; exact w64 (by omega) (by omega)
  have e0 : IntKind.i64.wrap (0 - 0 : Int) = 0 := rfl
  simp -implicitDefEqProofs (maxSteps := 1000000) only [↓zvN, zvU, ↓up_apply, ↓hv_apply, ↓upO_some, ↓upO_none, ↓ev_tmp, ↓ev_const, ↓ev_func, ↓ev_global, init, Nat.reduceEqDiff, Nat.reduceAdd, Nat.reduceMul, Nat.reduceSub, ↓reduceIte, Int.reduceEq, Int.reduceNe, Nat.reduceLeDiff, one, Value.cells, Int.reduceLE, Int.reduceLT, Int.reduceToNat, add_mk, reduceCtorEq, List.mem_range'_1, true_and, and_true, and_false, false_and, Nat.reduceLT, Nat.reduceLeDiff, tyF, g0, e0, e1]
  refine ⟨fun h => ?_, fun h => ⟨none, 0, rfl, Own.nil _ _ _ _, More.refl _⟩⟩
  obtain ⟨i, hi, hz, hs, hby⟩ := info_parts byteE
  have hG := grownCap_ge w (0 + n) 0 5
  have hr := Lib.run_append_grow_zeros (P := Tryz.prog) w 348 3 348 5 i (.int .u8 0) .i64 .i64 Tryz.underlying348 Tryz.underlying3 hi hz none 0 0 [] (run_firstCells_none _ _ _ _ _) n (by omega) (by omega) (by omega) (by omega) (by rw [hby]; omega)
    (by rw [hby, nextslicecap_zero (by omega)]; omega)
  rw [runP_eq hr]
  have hcm : grownCap w (0 + n) 0 5 ≤ maxLen := grownCap_le_maxLen w (0 + n) 0 _ (by simp only [maxLen]; omega)
  have hg0 : (0 : Int) ≤ 0 := by omega
  have hb := heap_alloc_new w.drew (.cells (([] : List Value).toArray ++ Builtin.zeroCells (Value.int .u8 0).cells n ++ Builtin.zeroCells (Value.int .u8 0).cells (grownCap w (0 + n) 0 5 - (0 + n))) 5)
  have hmm : More w (w.drew.alloc (.cells (([] : List Value).toArray ++ Builtin.zeroCells (Value.int .u8 0).cells n ++ Builtin.zeroCells (Value.int .u8 0).cells (grownCap w (0 + n) 0 5 - (0 + n))) 5)) :=
    ⟨rfl, rfl, rfl, by simp, fun k hk => heap_alloc_old w.drew _ (by simpa using hk)⟩
  have hcs : (([] : List Value).toArray ++ Builtin.zeroCells (Value.int .u8 0).cells n ++ Builtin.zeroCells (Value.int .u8 0).cells (grownCap w (0 + n) 0 5 - (0 + n))).size = grownCap w (0 + n) 0 5 := by
    simp only [Array.size_append, List.size_toArray, size_zeroCells, List.length_nil]
    have : (Value.int .u8 0).cells.size = 1 := rfl
    rw [this]
    omega
  generalize (([] : List Value).toArray ++ Builtin.zeroCells (Value.int .u8 0).cells n ++ Builtin.zeroCells (Value.int .u8 0).cells (grownCap w (0 + n) 0 5 - (0 + n))) = cs at *
  generalize grownCap w (0 + n) 0 5 = G at *
  generalize w.drew.alloc (.cells cs 5) = w1 at *
  simp -implicitDefEqProofs (maxSteps := 1000000) only [↓zvN, zvU, ↓up_apply, ↓hv_apply, ↓upO_some, ↓upO_none, ↓ev_tmp, ↓ev_const, ↓ev_func, ↓ev_global, init, Nat.reduceEqDiff, Nat.reduceAdd, Nat.reduceMul, Nat.reduceSub, ↓reduceIte, Int.reduceEq, Int.reduceNe, Nat.reduceLeDiff, one, Value.cells, Int.reduceLE, Int.reduceLT, Int.reduceToNat, add_mk, reduceCtorEq, List.mem_range'_1, true_and, and_true, and_false, false_and, Nat.reduceLT, Nat.reduceLeDiff, tyF]
  refine ⟨Nat.zero_le _, _, G, rfl, ⟨by simp, .inr ⟨w.heap.size, G, cs, rfl, Nat.le_refl _, hb, by omega, hcm, by rw [hcs, Nat.mul_one], by simp⟩⟩, hmm⟩
structure PartM where
  A : Option Addr
  l : List UInt8
  c : Nat
def PartM.cell (p : PartM) : Value := .slice p.A p.l.length p.c
def joinP (ps : List PartM) : List UInt8 := ps.flatMap PartM.l
theorem join_take {ps : List PartM} {k : Nat} {p : PartM} (h : ps[k]? = some p) : joinP (ps.take (k + 1)) = joinP (ps.take k) ++ p.l := by
  rw [List.take_add_one, h]
  simp [joinP]
theorem join_le (ps : List PartM) (k : Nat) : (joinP (ps.take k)).length ≤ (joinP ps).length := by
  have := congrArg (fun l => (joinP l).length) (List.take_append_drop k ps)
  simp only [joinP, List.flatMap_append, List.length_append] at this ⊢
  omega
def ConJ (ps : List PartM) (w : World) (v3 v11 : Value) (w' : World) : Prop := ∃ k : Nat, v11 = .int .i64 k ∧ k ≤ ps.length ∧ v3 = .int .i64 (joinP (ps.take k)).length ∧ w' = w
def ConK (ps : List PartM) (w : World) (v6 v27 : Value) (w' : World) : Prop :=
  ∃ (k : Nat) (A : Option Addr) (c : Nat), v27 = .int .i64 k ∧ k ≤ ps.length ∧ v6 = .slice A (joinP (ps.take k)).length c ∧ Own w' w.heap.size 5 1 A (joinP (ps.take k)).length c ((joinP (ps.take k)).map byteV) ∧ More w w'
theorem slices_concat (w : World) (A : Option Addr) (ps : List PartM) (c : Nat) (hA : Cs w A (ps.map PartM.cell)) (hB : ∀ p ∈ ps, Bs w p.A p.l) (hl : (joinP ps).length ≤ 100000) (hps : ps.length ≤ 1000) :
    Ret Tryz.prog 235 #[.slice A ps.length c] w fun v w' => ∃ A' c', v = .slice A' (joinP ps).length c' ∧ Own w' w.heap.size 5 1 A' (joinP ps).length c' ((joinP ps).map byteV) ∧ More w w' := by
  refine ret_of Tryz.func235 rfl (by kernel_rfl) (Nat.le_of_ble_eq_true (by kernel_rfl)) ?_
  simp -implicitDefEqProofs (maxSteps := 1000000) only [↓zvN, zvU, ↓up_apply, ↓hv_apply, ↓upO_some, ↓upO_none, ↓ev_tmp, ↓ev_const, ↓ev_func, ↓ev_global, init, Nat.reduceEqDiff, Nat.reduceAdd, Nat.reduceMul, Nat.reduceSub, ↓reduceIte, Int.reduceEq, Int.reduceNe, Nat.reduceLeDiff, one, Value.cells, Int.reduceLE, Int.reduceLT, Int.reduceToNat, add_mk, reduceCtorEq, List.mem_range'_1, true_and, and_true, and_false, false_and, Nat.reduceLT, Nat.reduceLeDiff, tyF]
  refine loop_p (3 :: 5 :: List.range' 11 12) (fun e w' => ConJ ps w (e 3) (e 11) w') (fun e _ => ps.length - (numOf (e 11)).toNat) ?_ ?_
  · exact ⟨0, by simp only [hv_apply, up_apply, upO_some, upO_none, init, List.mem_cons, List.mem_range'_1, true_and, and_true, and_false, false_and, Nat.reduceLT, Nat.reduceLeDiff, Nat.reduceAdd, true_or, or_true, if_true, if_false, ↓reduceIte, Nat.reduceEqDiff, false_or, or_false, List.not_mem_nil, List.getElem?_cons_zero, List.getElem?_cons_succ, Option.getD_some] <;> rfl, by omega, by simp only [hv_apply, up_apply, upO_some, upO_none, init, List.mem_cons, List.mem_range'_1, true_and, and_true, and_false, false_and, Nat.reduceLT, Nat.reduceLeDiff, Nat.reduceAdd, true_or, or_true, if_true, if_false, ↓reduceIte, Nat.reduceEqDiff, false_or, or_false, List.not_mem_nil, List.getElem?_cons_zero, List.getElem?_cons_succ, Option.getD_some] <;> rfl, rfl⟩
  rintro v w1 ⟨k, h11, hk, h3, rfl⟩
  simp only [hv_apply, up_apply, upO_some, upO_none, init, List.mem_cons, List.mem_range'_1, true_and, and_true, and_false, false_and, Nat.reduceLT, Nat.reduceLeDiff, Nat.reduceAdd, true_or, or_true, if_true, if_false, ↓reduceIte, Nat.reduceEqDiff, false_or, or_false, List.not_mem_nil, List.getElem?_cons_zero, List.getElem?_cons_succ, Option.getD_some] at h11 h3
  have ek : IntKind.i64.wrap ((k : Int) + 1) = ((k + 1 : Nat) : Int) := w64 (by omega) (by omega)
  have g0 : (0 : Int) ≤ (k : Int) := by omega
  simp -implicitDefEqProofs (maxSteps := 1000000) only [↓zvN, zvU, ↓up_apply, ↓hv_apply, ↓upO_some, ↓upO_none, ↓ev_tmp, ↓ev_const, ↓ev_func, ↓ev_global, init, Nat.reduceEqDiff, Nat.reduceAdd, Nat.reduceMul, Nat.reduceSub, ↓reduceIte, Int.reduceEq, Int.reduceNe, Nat.reduceLeDiff, one, Value.cells, Int.reduceLE, Int.reduceLT, Int.reduceToNat, add_mk, reduceCtorEq, List.mem_range'_1, true_and, and_true, and_false, false_and, Nat.reduceLT, Nat.reduceLeDiff, tyF, h11, h3]
  refine ⟨fun h9 => ?_, fun h9 => ?_⟩
  · obtain ⟨p, hp⟩ : ∃ p, ps[k]? = some p := ⟨ps[k]'(by omega), by simp⟩
    have hle := join_le ps (k + 1)
    rw [join_take hp, List.length_append] at hle
    have hcell := hA k p.cell (by simp [hp])
    obtain ⟨a, rfl, hcell⟩ := hcell
    unfold PartM.cell at hcell
    have e2 : IntKind.i64.wrap (((joinP (ps.take k)).length : Int) + (p.l.length : Int)) = ((joinP (ps.take (k + 1))).length : Int) := by
      rw [join_take hp, List.length_append]
      exact w64 (by omega) (by omega)
    have g1 : ¬ ((joinP (ps.take (k + 1))).length : Int) < 0 := by omega
    simp -implicitDefEqProofs (maxSteps := 1000000) only [↓zvN, zvU, ↓up_apply, ↓hv_apply, ↓upO_some, ↓upO_none, ↓ev_tmp, ↓ev_const, ↓ev_func, ↓ev_global, init, Nat.reduceEqDiff, Nat.reduceAdd, Nat.reduceMul, Nat.reduceSub, ↓reduceIte, Int.reduceEq, Int.reduceNe, Nat.reduceLeDiff, one, Value.cells, Int.reduceLE, Int.reduceLT, Int.reduceToNat, add_mk, reduceCtorEq, List.mem_range'_1, true_and, and_true, and_false, false_and, Nat.reduceLT, Nat.reduceLeDiff, tyF, h11, h3, g0, h9, hcell, e2, g1, ek, Int.toNat_natCast]
    refine ⟨⟨?_, k + 1, rfl, by omega, rfl, rfl⟩, by simp only [numOf]; omega⟩
    repeat (first | exact Same.hv _ _ _ | refine Same.up (by simp) ?_)
  obtain rfl : k = ps.length := by omega
  try simp only [List.take_length] at h3 ⊢
  refine call_ok Tryz.call251 (slices_grow0 w1 _ (by omega)) ?_
  rintro _ w2 ⟨A2, c2, rfl, ho2, hm2⟩
  simp -implicitDefEqProofs (maxSteps := 1000000) only [↓zvN, zvU, ↓up_apply, ↓hv_apply, ↓upO_some, ↓upO_none, ↓ev_tmp, ↓ev_const, ↓ev_func, ↓ev_global, init, Nat.reduceEqDiff, Nat.reduceAdd, Nat.reduceMul, Nat.reduceSub, ↓reduceIte, Int.reduceEq, Int.reduceNe, Nat.reduceLeDiff, one, Value.cells, Int.reduceLE, Int.reduceLT, Int.reduceToNat, add_mk, reduceCtorEq, List.mem_range'_1, true_and, and_true, and_false, false_and, Nat.reduceLT, Nat.reduceLeDiff, tyF, h11, h3]
  refine loop_p (6 :: 8 :: List.range' 27 8) (fun e w' => ConK ps w1 (e 6) (e 27) w') (fun e _ => ps.length - (numOf (e 27)).toNat) ?_ ?_
  · exact ⟨0, A2, c2, by simp only [hv_apply, up_apply, upO_some, upO_none, init, List.mem_cons, List.mem_range'_1, true_and, and_true, and_false, false_and, Nat.reduceLT, Nat.reduceLeDiff, Nat.reduceAdd, true_or, or_true, if_true, if_false, ↓reduceIte, Nat.reduceEqDiff, false_or, or_false, List.not_mem_nil, List.getElem?_cons_zero, List.getElem?_cons_succ, Option.getD_some] <;> rfl, by omega, by simp only [hv_apply, up_apply, upO_some, upO_none, init, List.mem_cons, List.mem_range'_1, true_and, and_true, and_false, false_and, Nat.reduceLT, Nat.reduceLeDiff, Nat.reduceAdd, true_or, or_true, if_true, if_false, ↓reduceIte, Nat.reduceEqDiff, false_or, or_false, List.not_mem_nil, List.getElem?_cons_zero, List.getElem?_cons_succ, Option.getD_some] <;> rfl, ho2, hm2⟩
  rintro v' w3 ⟨k, A3, c3, h27, hk, h6, ho3, hm3⟩
  simp only [hv_apply, up_apply, upO_some, upO_none, init, List.mem_cons, List.mem_range'_1, true_and, and_true, and_false, false_and, Nat.reduceLT, Nat.reduceLeDiff, Nat.reduceAdd, true_or, or_true, if_true, if_false, ↓reduceIte, Nat.reduceEqDiff, false_or, or_false, List.not_mem_nil, List.getElem?_cons_zero, List.getElem?_cons_succ, Option.getD_some] at h27 h6
  have ek : IntKind.i64.wrap ((k : Int) + 1) = ((k + 1 : Nat) : Int) := w64 (by omega) (by omega)
  have g0 : (0 : Int) ≤ (k : Int) := by omega
  simp -implicitDefEqProofs (maxSteps := 1000000) only [↓zvN, zvU, ↓up_apply, ↓hv_apply, ↓upO_some, ↓upO_none, ↓ev_tmp, ↓ev_const, ↓ev_func, ↓ev_global, init, Nat.reduceEqDiff, Nat.reduceAdd, Nat.reduceMul, Nat.reduceSub, ↓reduceIte, Int.reduceEq, Int.reduceNe, Nat.reduceLeDiff, one, Value.cells, Int.reduceLE, Int.reduceLT, Int.reduceToNat, add_mk, reduceCtorEq, List.mem_range'_1, true_and, and_true, and_false, false_and, Nat.reduceLT, Nat.reduceLeDiff, tyF, h27, h6]
  refine ⟨fun h9 => ?_, fun h9 => ?_⟩
  · obtain ⟨p, hp⟩ : ∃ p, ps[k]? = some p := ⟨ps[k]'(by omega), by simp⟩
    have hle := join_le ps (k + 1)
    rw [join_take hp, List.length_append] at hle
    have hcell := (hA.more hm3) k p.cell (by simp [hp])
    obtain ⟨a, rfl, hcell⟩ := hcell
    unfold PartM.cell at hcell
    simp -implicitDefEqProofs (maxSteps := 1000000) only [↓zvN, zvU, ↓up_apply, ↓hv_apply, ↓upO_some, ↓upO_none, ↓ev_tmp, ↓ev_const, ↓ev_func, ↓ev_global, init, Nat.reduceEqDiff, Nat.reduceAdd, Nat.reduceMul, Nat.reduceSub, ↓reduceIte, Int.reduceEq, Int.reduceNe, Nat.reduceLeDiff, one, Value.cells, Int.reduceLE, Int.reduceLT, Int.reduceToNat, add_mk, reduceCtorEq, List.mem_range'_1, true_and, and_true, and_false, false_and, Nat.reduceLT, Nat.reduceLeDiff, tyF, h27, h6, g0, h9, hcell, Int.toNat_natCast]
    refine app_mod (m := p.l.length) Tryz.underlying348 byteE rfl (by omega) ho3 ((hB p (List.mem_of_getElem? hp)).more hm3) (by simp) (byteV_one _) (by simp only [maxLen]; omega) (by omega) hm3.size ?_
    intro A4 c4 w4 ho4 hmd4 _
    have hm4 := Mod.more hm3 hmd4 (fun x hx h => by have := ho3.atB_ge h; omega)
    simp -implicitDefEqProofs (maxSteps := 1000000) only [↓zvN, zvU, ↓up_apply, ↓hv_apply, ↓upO_some, ↓upO_none, ↓ev_tmp, ↓ev_const, ↓ev_func, ↓ev_global, init, Nat.reduceEqDiff, Nat.reduceAdd, Nat.reduceMul, Nat.reduceSub, ↓reduceIte, Int.reduceEq, Int.reduceNe, Nat.reduceLeDiff, one, Value.cells, Int.reduceLE, Int.reduceLT, Int.reduceToNat, add_mk, reduceCtorEq, List.mem_range'_1, true_and, and_true, and_false, false_and, Nat.reduceLT, Nat.reduceLeDiff, tyF, h27, h6, ek]
    rw [← List.map_append, ← join_take hp, show (joinP (ps.take k)).length + p.l.length = (joinP (ps.take (k + 1))).length by rw [join_take hp, List.length_append]] at ho4
    rw [show (joinP (ps.take k)).length + p.l.length = (joinP (ps.take (k + 1))).length by rw [join_take hp, List.length_append]]
    refine ⟨⟨?_, k + 1, A4, c4, rfl, by omega, rfl, ho4, hm4⟩, by simp only [numOf]; omega⟩
    repeat (first | exact Same.hv _ _ _ | refine Same.up (by simp) ?_)
  obtain rfl : k = ps.length := by omega
  rw [List.take_length] at ho3 ⊢
  exact ⟨A3, c3, rfl, ho3, hm3⟩
def wordsM (s : S4) (b : List UInt8) : S4 × List UInt8 := if 8 ≤ b.length then wordsM (s.word (numT (b.take 8) 8)) (b.drop 8) else (s, b)
termination_by b.length
decreasing_by simp only [List.length_drop]; omega
def sipStart (key : List UInt8) : S4 := ⟨xorM (numT (key.take 8) 8) 8317987319222330741, xorM (numT (key.drop 8) 8) 7237128888997146477, xorM (numT (key.take 8) 8) 7816392313619706465, xorM (numT (key.drop 8) 8) 8387220255154660723⟩
def lastM (y n : Int) : Int := orM y (IntKind.u64.wrap (IntKind.u64.wrap n * 2 ^ min 56 IntKind.u64.bits))
def xor4 (r : S4) : Int := xorM (xorM (xorM r.a r.b) r.c) r.d
def turnK (s : S4) (k : Int) : S4 := { s with c := xorM s.c k }
theorem S4.sK (t : S4) (k : Int) : t.cells.set 2 (.int .u64 (bits .xor .u64 t.c k)) = (turnK t k).cells := rfl
def turnC (s : S4) : S4 := turnK s 255
def sipEnd (t : S4 × List UInt8) (n : Int) : Int := xor4 (S4.rounds 4 (turnC (t.1.word (lastM (numT t.2 t.2.length) n))))
theorem xor4_eq (z : S4) : bits .xor .u64 (bits .xor .u64 (bits .xor .u64 z.a z.b) z.c) z.d = xor4 z := rfl
theorem xor4_range (r : S4) : 0 ≤ xor4 r ∧ xor4 r < 18446744073709551616 := by unfold xor4 xorM; exact bits_range _ _ _
def sipM (key b : List UInt8) : Int := sipEnd (wordsM (sipStart key) b) b.length
theorem sipM_range (key b : List UInt8) : 0 ≤ sipM key b ∧ sipM key b < 18446744073709551616 := by unfold sipM sipEnd; exact xor4_range _
theorem adv_at {A : Option Addr} {c k s : Nat} {a : Addr} (h : adv A c k s = some a) : ∃ a0, A = some a0 ∧ a.block = a0.block := by
  unfold adv at h
  split at h
  · exact ⟨a, h, rfl⟩
  · obtain ⟨a0, h0, rfl⟩ := Option.map_eq_some_iff.1 h
    refine ⟨a0, h0, ?_⟩
    unfold Addr.add
    split <;> rfl
def SumJ (all : List UInt8) (s0 : S4) (w : World) (q : Nat) (v8 : Value) (w' : World) : Prop :=
  ∃ (r : List UInt8) (A : Option Addr) (c : Nat) (s : S4), v8 = .slice A r.length c ∧ r.length ≤ c ∧ r.length ≤ all.length ∧ wordsM s r = wordsM s0 all ∧ Bs w A r ∧ (∀ a, A = some a → a.block ≠ q) ∧ Blk w' q 370 s.cells ∧ But q w w'
theorem zerState : zer Tryz.prog 370 = some (.agg (S4.mk 0 0 0 0).cells.toArray) := by rw [zer370]; rfl
theorem state_build (a b c d : Int) (w0 : World) (K : Value → Prop) : pureP Tryz.prog (Instr.build 370 #[(0, .int .u64 a), (1, .int .u64 b), (2, .int .u64 c), (3, .int .u64 d)]) K = K (.agg (S4.mk a b c d).cells.toArray) :=
  build_of (S4.mk a b c d).cells (by kernel_rfl) zerState rfl w0 K
theorem sip_sum_at (R : Int) (w : World) (key : List UInt8) (A : Option Addr) (ps : List PartM) (c : Nat) (hR : R = sipM key (joinP ps)) (hk : key.length = 16) (hA : Cs w A (ps.map PartM.cell)) (hB : ∀ p ∈ ps, Bs w p.A p.l) (hl : (joinP ps).length ≤ 100000) (hps : ps.length ≤ 1000) :
    Ret Tryz.prog 227 #[.agg (key.map byteV).toArray, .slice A ps.length c] w fun v w' => v = .int .u64 R ∧ More w w' := by
  refine ret_of Tryz.func227 rfl (by kernel_rfl) (Nat.le_of_ble_eq_true (by kernel_rfl)) ?_
  have hm1 := more_alloc w (.cells (key.map byteV).toArray 24)
  have hb1 := Blk.new w 24 (key.map byteV).toArray
  have s1 := size_alloc w (.cells (key.map byteV).toArray 24)
  simp -implicitDefEqProofs (maxSteps := 1000000) only [↓zvN, zvU, ↓up_apply, ↓hv_apply, ↓upO_some, ↓upO_none, ↓ev_tmp, ↓ev_const, ↓ev_func, ↓ev_global, init, Nat.reduceEqDiff, Nat.reduceAdd, Nat.reduceMul, Nat.reduceSub, ↓reduceIte, Int.reduceEq, Int.reduceNe, Nat.reduceLeDiff, one, Value.cells, Int.reduceLE, Int.reduceLT, Int.reduceToNat, add_mk, reduceCtorEq, List.mem_range'_1, true_and, and_true, and_false, false_and, Nat.reduceLT, Nat.reduceLeDiff, tyF]
  generalize w.alloc (.cells (key.map byteV).toArray 24) = w1 at hm1 hb1 s1 ⊢
  rw [List.toList_toArray] at hb1
  generalize hpp : w.heap.size = p at *
  have hk0 : Bs w1 (some ⟨p, 0, none⟩) (key.take 8) := blk_bs hb1 (by rw [List.drop_zero, ← List.map_take]; congr 1; simp [hk])
  have hk1 : Bs w1 (some ⟨p, 8, none⟩) (key.drop 8) := blk_bs hb1 (by rw [← List.map_drop, ← List.map_take, List.take_of_length_le (by simp)])
  refine draw_line w1.heap.size More [0, 1, 0, 1, 0, 0] [[], [0], [], [0, 1, 2], [0, 1, 2, 3], [0, 1, 2, 3, 4]] mixed (by kernel_rfl) (by kernel_rfl) (More.refl _) (fun w' h => h) (fun w' h => h) ?_
  intro w2 hm2
  simp -implicitDefEqProofs (maxSteps := 1000000) only [↓zvN, zvU, ↓zqD, ↓sk_nil, ↓sk_cons, ↓sk_guard, ↓sk_zero, ↓sk_one, ↓sk_two, ↓up_apply, ↓hv_apply, ↓upO_some, ↓upO_none, ↓ev_tmp, ↓ev_const, ↓ev_func, ↓ev_global, init, Nat.reduceEqDiff, Nat.reduceAdd, Nat.reduceMul, Nat.reduceSub, ↓reduceIte, Int.reduceEq, Int.reduceNe, Nat.reduceLeDiff, one, Value.cells, Int.reduceLE, Int.reduceLT, Int.reduceToNat, add_mk, reduceCtorEq, List.mem_range'_1, true_and, and_true, and_false, false_and, Nat.reduceLT, Nat.reduceLeDiff, tyF]
  have l0 : (key.take 8).length = 8 := by simp [hk]
  have l1 : (key.drop 8).length = 8 := by simp [hk]
  have hst : sipStart key = ⟨bits .xor .u64 (numT (key.take 8) 8) 8317987319222330741, bits .xor .u64 (numT (key.drop 8) 8) 7237128888997146477, bits .xor .u64 (numT (key.take 8) 8) 7816392313619706465, bits .xor .u64 (numT (key.drop 8) 8) 8387220255154660723⟩ := rfl
  obtain ⟨y0, hy0⟩ : ∃ y, y = numT (key.take 8) 8 := ⟨_, rfl⟩
  obtain ⟨y1, hy1⟩ : ∃ y, y = numT (key.drop 8) 8 := ⟨_, rfl⟩
  rw [← hy0, ← hy1] at hst
  have n0 : Ret Tryz.prog 234 #[.slice (some ⟨p, 0, none⟩) 8 16] w2 fun v w' => v = .int .u64 y0 ∧ More w2 w' := by
    have := sip_number w2 _ (key.take 8) 16 (hk0.more hm2) (by omega)
    rw [l0, ← hy0] at this
    exact this
  refine call_ok Tryz.call234 n0 ?_
  rintro _ w3 ⟨rfl, hm3⟩
  simp -implicitDefEqProofs (maxSteps := 1000000) only [↓zvN, zvU, ↓zqD, ↓sk_nil, ↓sk_cons, ↓sk_guard, ↓sk_zero, ↓sk_one, ↓sk_two, ↓up_apply, ↓hv_apply, ↓upO_some, ↓upO_none, ↓ev_tmp, ↓ev_const, ↓ev_func, ↓ev_global, init, Nat.reduceEqDiff, Nat.reduceAdd, Nat.reduceMul, Nat.reduceSub, ↓reduceIte, Int.reduceEq, Int.reduceNe, Nat.reduceLeDiff, one, Value.cells, Int.reduceLE, Int.reduceLT, Int.reduceToNat, add_mk, reduceCtorEq, List.mem_range'_1, true_and, and_true, and_false, false_and, Nat.reduceLT, Nat.reduceLeDiff, tyF]
  refine ⟨hm2.trans hm3, ?_⟩
  have n1 : Ret Tryz.prog 234 #[.slice (some ⟨p, 8, none⟩) 8 8] w3 fun v w' => v = .int .u64 y1 ∧ More w3 w' := by
    have := sip_number w3 _ (key.drop 8) 8 ((hk1.more hm2).more hm3) (by omega)
    rw [l1, ← hy1] at this
    exact this
  try simp -implicitDefEqProofs (maxSteps := 1000000) only [↓zvN, zvU, ↓zqD, ↓sk_nil, ↓sk_cons, ↓sk_guard, ↓sk_zero, ↓sk_one, ↓sk_two, ↓up_apply, ↓hv_apply, ↓upO_some, ↓upO_none, ↓ev_tmp, ↓ev_const, ↓ev_func, ↓ev_global, init, Nat.reduceEqDiff, Nat.reduceAdd, Nat.reduceMul, Nat.reduceSub, ↓reduceIte, Int.reduceEq, Int.reduceNe, Nat.reduceLeDiff, one, Value.cells, Int.reduceLE, Int.reduceLT, Int.reduceToNat, add_mk, reduceCtorEq, List.mem_range'_1, true_and, and_true, and_false, false_and, Nat.reduceLT, Nat.reduceLeDiff, tyF]
  refine call_ok Tryz.call234 n1 ?_
  rintro _ w4 ⟨rfl, hm4⟩
  simp -implicitDefEqProofs (maxSteps := 1000000) only [↓zvN, zvU, ↓zqD, ↓sk_nil, ↓sk_cons, ↓sk_guard, ↓sk_zero, ↓sk_one, ↓sk_two, ↓up_apply, ↓hv_apply, ↓upO_some, ↓upO_none, ↓ev_tmp, ↓ev_const, ↓ev_func, ↓ev_global, init, Nat.reduceEqDiff, Nat.reduceAdd, Nat.reduceMul, Nat.reduceSub, ↓reduceIte, Int.reduceEq, Int.reduceNe, Nat.reduceLeDiff, one, Value.cells, Int.reduceLE, Int.reduceLT, Int.reduceToNat, add_mk, reduceCtorEq, List.mem_range'_1, true_and, and_true, and_false, false_and, Nat.reduceLT, Nat.reduceLeDiff, tyF]
  refine ⟨(hm2.trans hm3).trans hm4, ?_⟩
  have hm14 := ((hm1.trans hm2).trans hm3).trans hm4
  unfold sipM at hR
  clear n0 n1 hy0 hy1
  simp -implicitDefEqProofs (maxSteps := 1000000) only [↓zvN, zvU, ↓up_apply, ↓hv_apply, ↓upO_some, ↓upO_none, ↓ev_tmp, ↓ev_const, ↓ev_func, ↓ev_global, init, Nat.reduceEqDiff, Nat.reduceAdd, Nat.reduceMul, Nat.reduceSub, ↓reduceIte, Int.reduceEq, Int.reduceNe, Nat.reduceLeDiff, one, Value.cells, Int.reduceLE, Int.reduceLT, Int.reduceToNat, add_mk, reduceCtorEq, List.mem_range'_1, true_and, and_true, and_false, false_and, Nat.reduceLT, Nat.reduceLeDiff, tyF, state_build _ _ _ _ w]
  rw [← hst]
  generalize sipStart key = s0 at *
  have hm5 := more_alloc w4 (.cells s0.cells.toArray 370)
  have hb5 := Blk.new w4 370 s0.cells.toArray
  have s5 := size_alloc w4 (.cells s0.cells.toArray 370)
  generalize w4.alloc (.cells s0.cells.toArray 370) = w5 at hm5 hb5 s5 ⊢
  rw [List.toList_toArray] at hb5
  have hm15 : More w w5 := hm14.trans hm5
  generalize hqq : w4.heap.size = q at *
  have hpq : w.heap.size ≤ q := by rw [← hqq]; exact hm14.size
  refine call_ok Tryz.call235 (slices_concat w5 A ps c (hA.more hm15) (fun x hx => (hB x hx).more hm15) hl hps) ?_
  rintro _ w6 ⟨A6, c6, rfl, ho6, hm6⟩
  have hb6 := hb5.more hm6
  have hne6 : ∀ a, A6 = some a → a.block ≠ q := fun a ha => by have := ho6.atB_ge ⟨a, ha, rfl⟩; omega
  have hle6 := ho6.le
  generalize joinP ps = all at *
  simp -implicitDefEqProofs (maxSteps := 1000000) only [↓zvN, zvU, ↓up_apply, ↓hv_apply, ↓upO_some, ↓upO_none, ↓ev_tmp, ↓ev_const, ↓ev_func, ↓ev_global, init, Nat.reduceEqDiff, Nat.reduceAdd, Nat.reduceMul, Nat.reduceSub, ↓reduceIte, Int.reduceEq, Int.reduceNe, Nat.reduceLeDiff, one, Value.cells, Int.reduceLE, Int.reduceLT, Int.reduceToNat, add_mk, reduceCtorEq, List.mem_range'_1, true_and, and_true, and_false, false_and, Nat.reduceLT, Nat.reduceLeDiff, tyF]
  refine loop_p (8 :: List.range' 28 10) (fun e w' => SumJ all s0 w6 q (e 8) w') (fun e _ => lenOf (e 8)) ?_ ?_
  · exact ⟨all, A6, c6, s0, by simp only [hv_apply, up_apply, upO_some, upO_none, init, List.mem_cons, List.mem_range'_1, true_and, and_true, and_false, false_and, Nat.reduceLT, Nat.reduceLeDiff, Nat.reduceAdd, true_or, or_true, if_true, if_false, ↓reduceIte, Nat.reduceEqDiff, false_or, or_false, List.not_mem_nil, List.getElem?_cons_zero, List.getElem?_cons_succ, Option.getD_some] <;> rfl, hle6, Nat.le_refl _, rfl, ho6.cs, hne6, hb6, But.refl _ _⟩
  rintro v w7 ⟨r, A7, c7, s, h8, hrc, hra, hws, hB7, hne7, hb7, bt7⟩
  simp only [hv_apply, up_apply, upO_some, upO_none, init, List.mem_cons, List.mem_range'_1, true_and, and_true, and_false, false_and, Nat.reduceLT, Nat.reduceLeDiff, Nat.reduceAdd, true_or, or_true, if_true, if_false, ↓reduceIte, Nat.reduceEqDiff, false_or, or_false, List.not_mem_nil, List.getElem?_cons_zero, List.getElem?_cons_succ, Option.getD_some] at h8
  have hB7' := bt7.bs hB7 hne7
  have hm7 : More w w7 := more_but (hm15.trans hm6) bt7 hpq
  simp -implicitDefEqProofs (maxSteps := 1000000) only [↓zvN, zvU, ↓up_apply, ↓hv_apply, ↓upO_some, ↓upO_none, ↓ev_tmp, ↓ev_const, ↓ev_func, ↓ev_global, init, Nat.reduceEqDiff, Nat.reduceAdd, Nat.reduceMul, Nat.reduceSub, ↓reduceIte, Int.reduceEq, Int.reduceNe, Nat.reduceLeDiff, one, Value.cells, Int.reduceLE, Int.reduceLT, Int.reduceToNat, add_mk, reduceCtorEq, List.mem_range'_1, true_and, and_true, and_false, false_and, Nat.reduceLT, Nat.reduceLeDiff, tyF, h8]
  refine ⟨fun h9 => ?_, fun h9 => ?_⟩
  · have g8 : (8 : Nat) ≤ r.length := by omega
    have g8c : (8 : Nat) ≤ c7 := by omega
    have l8 : (r.take 8).length = 8 := by simp; omega
    rw [wordsM, if_pos g8] at hws
    obtain ⟨y, hy⟩ : ∃ y, y = numT (r.take 8) 8 := ⟨_, rfl⟩
    rw [← hy] at hws
    have n1 : Ret Tryz.prog 234 #[.slice A7 8 c7] w7 fun v w' => v = .int .u64 y ∧ More w7 w' := by
      have := sip_number w7 A7 (r.take 8) c7 (hB7'.takeB 8) (by omega)
      rw [l8, ← hy] at this
      exact this
    clear hy
    simp -implicitDefEqProofs (maxSteps := 1000000) only [↓zvN, zvU, ↓up_apply, ↓hv_apply, ↓upO_some, ↓upO_none, ↓ev_tmp, ↓ev_const, ↓ev_func, ↓ev_global, init, Nat.reduceEqDiff, Nat.reduceAdd, Nat.reduceMul, Nat.reduceSub, ↓reduceIte, Int.reduceEq, Int.reduceNe, Nat.reduceLeDiff, one, Value.cells, Int.reduceLE, Int.reduceLT, Int.reduceToNat, add_mk, reduceCtorEq, List.mem_range'_1, true_and, and_true, and_false, false_and, Nat.reduceLT, Nat.reduceLeDiff, tyF, h8, g8, g8c]
    refine call_ok Tryz.call234 n1 ?_
    rintro _ w8 ⟨rfl, hm8⟩
    simp -implicitDefEqProofs (maxSteps := 1000000) only [↓zvN, zvU, ↓up_apply, ↓hv_apply, ↓upO_some, ↓upO_none, ↓ev_tmp, ↓ev_const, ↓ev_func, ↓ev_global, init, Nat.reduceEqDiff, Nat.reduceAdd, Nat.reduceMul, Nat.reduceSub, ↓reduceIte, Int.reduceEq, Int.reduceNe, Nat.reduceLeDiff, one, Value.cells, Int.reduceLE, Int.reduceLT, Int.reduceToNat, add_mk, reduceCtorEq, List.mem_range'_1, true_and, and_true, and_false, false_and, Nat.reduceLT, Nat.reduceLeDiff, tyF, h8, g8, g8c]
    refine call_ok Tryz.call236 (sip_word w8 q s y (hb7.more hm8)) ?_
    rintro _ w9 ⟨rfl, hb9, bt9⟩
    simp -implicitDefEqProofs (maxSteps := 1000000) only [↓zvN, zvU, ↓up_apply, ↓hv_apply, ↓upO_some, ↓upO_none, ↓ev_tmp, ↓ev_const, ↓ev_func, ↓ev_global, init, Nat.reduceEqDiff, Nat.reduceAdd, Nat.reduceMul, Nat.reduceSub, ↓reduceIte, Int.reduceEq, Int.reduceNe, Nat.reduceLeDiff, one, Value.cells, Int.reduceLE, Int.reduceLT, Int.reduceToNat, add_mk, reduceCtorEq, List.mem_range'_1, true_and, and_true, and_false, false_and, Nat.reduceLT, Nat.reduceLeDiff, tyF, h8, g8, g8c]
    have hdl : (r.drop 8).length = r.length - 8 := by simp
    refine ⟨⟨?_, r.drop 8, adv A7 c7 8 1, c7 - 8, s.word y, by rw [hdl], by omega, by omega, hws, hB7.advB hrc, ?_, hb9, (bt7.trans (But.of_more hm8)).trans bt9⟩, by simp only [lenOf]; omega⟩
    · repeat (first | exact Same.hv _ _ _ | refine Same.up (by simp) ?_)
    · intro a ha
      obtain ⟨a0, h0, e0⟩ := adv_at ha
      rw [e0]
      exact hne7 a0 h0
  generalize hev : RV.hv _ _ v = e
  have e7 : e 7 = .pointer (some ⟨q, 0, none⟩) := by rw [← hev]; simp only [hv_apply, up_apply, upO_some, upO_none, init, List.mem_cons, List.mem_range'_1, true_and, and_true, and_false, false_and, Nat.reduceLT, Nat.reduceLeDiff, Nat.reduceAdd, true_or, or_true, if_true, if_false, ↓reduceIte, Nat.reduceEqDiff, false_or, or_false, List.not_mem_nil, List.getElem?_cons_zero, List.getElem?_cons_succ, Option.getD_some]
  have e8 : e 8 = .slice A7 r.length c7 := by rw [← hev]; simp only [hv_apply, up_apply, upO_some, upO_none, init, List.mem_cons, List.mem_range'_1, true_and, and_true, and_false, false_and, Nat.reduceLT, Nat.reduceLeDiff, Nat.reduceAdd, true_or, or_true, if_true, if_false, ↓reduceIte, Nat.reduceEqDiff, false_or, or_false, List.not_mem_nil, List.getElem?_cons_zero, List.getElem?_cons_succ, Option.getD_some]; exact h8
  have e9 : e 9 = .int .i64 all.length := by rw [← hev]; simp only [hv_apply, up_apply, upO_some, upO_none, init, List.mem_cons, List.mem_range'_1, true_and, and_true, and_false, false_and, Nat.reduceLT, Nat.reduceLeDiff, Nat.reduceAdd, true_or, or_true, if_true, if_false, ↓reduceIte, Nat.reduceEqDiff, false_or, or_false, List.not_mem_nil, List.getElem?_cons_zero, List.getElem?_cons_succ, Option.getD_some]
  clear hev h8
  obtain ⟨nn, hnn⟩ : ∃ n : Int, n = (all.length : Int) := ⟨_, rfl⟩
  rw [← hnn] at e9
  rw [wordsM, if_neg (by omega)] at hws
  rw [← hws] at hR
  obtain ⟨y, hy⟩ : ∃ y, y = numT r r.length := ⟨_, rfl⟩
  have n1 := sip_number w7 A7 r c7 hB7' (by omega)
  have hend : sipEnd (s, r) all.length = xor4 (S4.rounds 4 (turnC (s.word (lastM (numT r r.length) all.length)))) := rfl
  rw [← hy] at n1 hend
  rw [hend] at hR
  clear hy hend
  refine call_ok Tryz.call234 n1 ?_
  rintro _ w8 ⟨rfl, hm8⟩
  rw [← hnn] at hR
  clear hnn
  have hlast : bits .or .u64 y (IntKind.u64.wrap (IntKind.u64.wrap nn * 2 ^ min 56 IntKind.u64.bits)) = lastM y nn := rfl
  simp -implicitDefEqProofs (maxSteps := 1000000) only [↓zvN, zvU, ↓up_apply, ↓hv_apply, ↓upO_some, ↓upO_none, ↓ev_tmp, ↓ev_const, ↓ev_func, ↓ev_global, init, Nat.reduceEqDiff, Nat.reduceAdd, Nat.reduceMul, Nat.reduceSub, ↓reduceIte, Int.reduceEq, Int.reduceNe, Nat.reduceLeDiff, one, Value.cells, Int.reduceLE, Int.reduceLT, Int.reduceToNat, add_mk, reduceCtorEq, List.mem_range'_1, true_and, and_true, and_false, false_and, Nat.reduceLT, Nat.reduceLeDiff, tyF, e7, e8, e9, hlast]
  clear hlast
  obtain ⟨m, hm⟩ : ∃ m, lastM y nn = m := ⟨_, rfl⟩
  rw [hm] at hR ⊢
  clear hm
  refine call_ok Tryz.call236 (sip_word w8 q s m (hb7.more hm8)) ?_
  rintro _ w9 ⟨rfl, hb9, bt9⟩
  obtain ⟨t, ht⟩ : ∃ t, s.word m = t := ⟨_, rfl⟩
  rw [ht] at hR hb9
  clear ht
  rw [s2_tuple, s2_tuple, zp_nil]
  have hcc := hb9.cell 2
  simp only [S4.cells, List.getElem?_cons_zero, List.getElem?_cons_succ] at hcc
  rw [n_normal, c_seq, zc_region]
  refine ops_name fun K9 hK9 => ?_
  simp -implicitDefEqProofs (maxSteps := 1000000) only [↓zvN, zvU, ↓up_apply, ↓hv_apply, ↓upO_some, ↓upO_none, ↓ev_tmp, ↓ev_const, ↓ev_func, ↓ev_global, init, Nat.reduceEqDiff, Nat.reduceAdd, Nat.reduceMul, Nat.reduceSub, ↓reduceIte, Int.reduceEq, Int.reduceNe, Nat.reduceLeDiff, one, Value.cells, Int.reduceLE, Int.reduceLT, Int.reduceToNat, add_mk, reduceCtorEq, List.mem_range'_1, true_and, and_true, and_false, false_and, Nat.reduceLT, Nat.reduceLeDiff, tyF, e7, hcc]
  have hcs := S4.sK t 255
  rw [show turnK t 255 = turnC t from rfl] at hcs
  obtain ⟨xx, hx⟩ : ∃ xx, bits .xor .u64 t.c 255 = xx := ⟨_, rfl⟩
  rw [hx] at hcs ⊢
  clear hx
  refine st_cell hb9 (by simp [S4.cells]) rfl fun w10 i1 i2 => ?_
  rw [s2_undef]
  rw [hcs] at i2
  clear hcs
  obtain ⟨u, hu⟩ : ∃ u, turnC t = u := ⟨_, rfl⟩
  rw [hu] at hR i2
  clear hu
  simp -implicitDefEqProofs (maxSteps := 1000000) only [↓zvN, zvU, ↓up_apply, ↓hv_apply, ↓upO_some, ↓upO_none, ↓ev_tmp, ↓ev_const, ↓ev_func, ↓ev_global, init, Nat.reduceEqDiff, Nat.reduceAdd, Nat.reduceMul, Nat.reduceSub, ↓reduceIte, Int.reduceEq, Int.reduceNe, Nat.reduceLeDiff, one, Value.cells, Int.reduceLE, Int.reduceLT, Int.reduceToNat, add_mk, reduceCtorEq, List.mem_range'_1, true_and, and_true, and_false, false_and, Nat.reduceLT, Nat.reduceLeDiff, tyF, e7]
  refine hK9 _ _ ?_
  clear hK9 K9
  simp -implicitDefEqProofs (maxSteps := 1000000) only [↓zvN, zvU, ↓up_apply, ↓hv_apply, ↓upO_some, ↓upO_none, ↓ev_tmp, ↓ev_const, ↓ev_func, ↓ev_global, init, Nat.reduceEqDiff, Nat.reduceAdd, Nat.reduceMul, Nat.reduceSub, ↓reduceIte, Int.reduceEq, Int.reduceNe, Nat.reduceLeDiff, one, Value.cells, Int.reduceLE, Int.reduceLT, Int.reduceToNat, add_mk, reduceCtorEq, List.mem_range'_1, true_and, and_true, and_false, false_and, Nat.reduceLT, Nat.reduceLeDiff, tyF, e7]
  refine call_ok Tryz.call237 (sip_round w10 q u 4 i2 (by omega)) ?_
  rintro _ w11 ⟨rfl, hb11, bt11⟩
  obtain ⟨z, hz⟩ : ∃ z, S4.rounds 4 u = z := ⟨_, rfl⟩
  rw [hz] at hR hb11
  clear hz
  try simp -implicitDefEqProofs (maxSteps := 1000000) only [↓zvN, zvU, ↓up_apply, ↓hv_apply, ↓upO_some, ↓upO_none, ↓ev_tmp, ↓ev_const, ↓ev_func, ↓ev_global, init, Nat.reduceEqDiff, Nat.reduceAdd, Nat.reduceMul, Nat.reduceSub, ↓reduceIte, Int.reduceEq, Int.reduceNe, Nat.reduceLeDiff, one, Value.cells, Int.reduceLE, Int.reduceLT, Int.reduceToNat, add_mk, reduceCtorEq, List.mem_range'_1, true_and, and_true, and_false, false_and, Nat.reduceLT, Nat.reduceLeDiff, tyF, e7]
  have ca := hb11.cell 0
  have cb := hb11.cell 1
  have cq := hb11.cell 2
  have cd := hb11.cell 3
  have hlt := hb11.lt
  simp only [S4.cells, List.getElem?_cons_zero, List.getElem?_cons_succ] at ca cb cq cd
  have hx4 := xor4_eq z
  refine draw_calm mixed (by kernel_rfl) ?_
  simp -implicitDefEqProofs (maxSteps := 1000000) only [↓zvN, zvU, ↓zqD, ↓up_apply, ↓hv_apply, ↓upO_some, ↓upO_none, ↓ev_tmp, ↓ev_const, ↓ev_func, ↓ev_global, init, Nat.reduceEqDiff, Nat.reduceAdd, Nat.reduceMul, Nat.reduceSub, ↓reduceIte, Int.reduceEq, Int.reduceNe, Nat.reduceLeDiff, one, Value.cells, Int.reduceLE, Int.reduceLT, Int.reduceToNat, add_mk, reduceCtorEq, List.mem_range'_1, true_and, and_true, and_false, false_and, Nat.reduceLT, Nat.reduceLeDiff, tyF, e7, ca, cb, cq, cd, hlt, hx4]
  intro w12 hm12
  try simp -implicitDefEqProofs (maxSteps := 1000000) only [↓zvN, zvU, ↓up_apply, ↓hv_apply, ↓upO_some, ↓upO_none, ↓ev_tmp, ↓ev_const, ↓ev_func, ↓ev_global, init, Nat.reduceEqDiff, Nat.reduceAdd, Nat.reduceMul, Nat.reduceSub, ↓reduceIte, Int.reduceEq, Int.reduceNe, Nat.reduceLeDiff, one, Value.cells, Int.reduceLE, Int.reduceLT, Int.reduceToNat, add_mk, reduceCtorEq, List.mem_range'_1, true_and, and_true, and_false, false_and, Nat.reduceLT, Nat.reduceLeDiff, tyF]
  have bt := (((bt7.trans (But.of_more hm8)).trans bt9).trans (But.of_wr i1)).trans bt11
  exact ⟨by rw [hR], (more_but (hm15.trans hm6) bt hpq).trans hm12⟩
theorem sip_sum (w : World) (key : List UInt8) (A : Option Addr) (ps : List PartM) (c : Nat) (hk : key.length = 16) (hA : Cs w A (ps.map PartM.cell)) (hB : ∀ p ∈ ps, Bs w p.A p.l) (hl : (joinP ps).length ≤ 100000) (hps : ps.length ≤ 1000) :
    Ret Tryz.prog 227 #[.agg (key.map byteV).toArray, .slice A ps.length c] w fun v w' => v = .int .u64 (sipM key (joinP ps)) ∧ More w w' :=
  sip_sum_at _ w key A ps c rfl hk hA hB hl hps

def adrN (v6 : Bool) : Nat := if v6 = true then 16 else 4
def keyM (f : FlowM) : List UInt8 := [u8 (if f.v6 = true then 6 else 4)] ++ [u8 f.proto] ++ f.src.take (adrN f.v6) ++ f.dst.take (adrN f.v6) ++ numB f.sp 2 ++ numB f.dp 2
def KeyR (f : FlowM) (w : World) (v : Value) (w' : World) : Prop := ∃ A c, v = .slice A (keyM f).length c ∧ Own w' w.heap.size 5 1 A (keyM f).length c ((keyM f).map byteV) ∧ More w w'
theorem flow_src {w : World} {p : Nat} {f : FlowM} (h : Blk w p 34 f.cells) (hf : f.Fit) : Bs w (some ⟨p, 2, none⟩) f.src := by
  refine blk_bs h ?_
  rw [hf.src, FlowM.cSrc hf]
theorem flow_dst {w : World} {p : Nat} {f : FlowM} (h : Blk w p 34 f.cells) (hf : f.Fit) : Bs w (some ⟨p, 18, none⟩) f.dst := by
  refine blk_bs h ?_
  rw [hf.dst, FlowM.cDst hf]
theorem frame_key (w : World) (f : FlowM) (hf : f.Fit) :
    Ret Tryz.prog 248 #[.agg f.cells.toArray] w (KeyR f w) := by
  refine ret_of Tryz.func248 rfl (by kernel_rfl) (Nat.le_of_ble_eq_true (by kernel_rfl)) ?_
  have hm1 := more_alloc w (.cells f.cells.toArray 34)
  have hb1 := Blk.new w 34 f.cells.toArray
  have s1 := size_alloc w (.cells f.cells.toArray 34)
  simp -implicitDefEqProofs (maxSteps := 1000000) only [↓zvD, zvU, ↓zvE, zvM, init, one, Value.cells, simprocAttr, tyF]
  generalize w.alloc (.cells f.cells.toArray 34) = w1 at hm1 hb1 s1 ⊢
  simp only [List.toList_toArray] at hb1
  have hm2 := more_alloc w1 (.cells #[.slice none 0 0] 395)
  have ho2 := out_made w1
  have s2 := size_alloc w1 (.cells #[.slice none 0 0] 395)
  simp -implicitDefEqProofs (maxSteps := 1000000) only [↓zvD, zvU, ↓zvE, zvM, init, one, Value.cells, simprocAttr, tyF, hb1.cell, FlowM.c0, zerOut]
  refine ⟨fun hv => ?_, fun hv => ?_⟩
  · simp -implicitDefEqProofs (maxSteps := 1000000) only [↓zvD, zvU, ↓zvE, zvM, init, one, Value.cells, simprocAttr, tyF, zerOut]
    generalize w1.alloc (.cells #[.slice none 0 0] 395) = w2 at hm2 ho2 s2 ⊢
    have hb2 := hb1.more hm2
    replace hm2 := hm1.trans hm2
    have hp : w.heap.size < w1.heap.size := by omega
    have hq : w.heap.size ≤ w1.heap.size := by omega
    have hB2 : w1.heap.size ≤ w2.heap.size := by omega
    clear hb1 hm1 s1 s2
    generalize w1.heap.size = q at hp hq hB2 ho2 ⊢
    have e16 : (f.src.take 16).length = 16 := by simp [hf.src]
    have e17 : (f.dst.take 16).length = 16 := by simp [hf.dst]
    refine call_ok Tryz.call258 (out_u8 w2 q q none 0 [] 6 (by omega) (by omega) ho2 (by simp) hB2) ?_
    rintro _ w3 ⟨rfl, A3, c3, ho3, hmn, _⟩
    have hb3 := out_keep ho2 hmn hb2 hp
    have hm3 := out_more ho2 hmn hm2 hq
    have hB3 : q ≤ w3.heap.size := Nat.le_of_lt ho3.1.lt
    clear hmn
    try simp -implicitDefEqProofs (maxSteps := 1000000) only [↓zvD, zvU, ↓zvE, zvM, init, one, Value.cells, simprocAttr, tyF, hb3.cell, FlowM.c0, FlowM.c1, FlowM.cS hf, FlowM.cD hf]
    refine call_ok Tryz.call258 (out_u8 w3 q q A3 c3 _ _ hf.p0 hf.p1 ho3 (by simp) hB3) ?_
    rintro _ w4 ⟨rfl, A4, c4, ho4, hmn, _⟩
    have hb4 := out_keep ho3 hmn hb3 hp
    have hm4 := out_more ho3 hmn hm3 hq
    have hB4 : q ≤ w4.heap.size := Nat.le_of_lt ho4.1.lt
    clear hmn
    try simp -implicitDefEqProofs (maxSteps := 1000000) only [↓zvD, zvU, ↓zvE, zvM, init, one, Value.cells, simprocAttr, tyF, hb4.cell, FlowM.c0, FlowM.c1, FlowM.cS hf, FlowM.cD hf]
    have hs4 := Cs.takeB (flow_src hb4 hf) 16
    refine call_ok Tryz.call259 (by have := out_raw w4 q q A4 c4 _ _ _ 16 ho4 hs4 (by simp) (by omega) hB4; rw [e16] at this; exact this) ?_
    rintro _ w5 ⟨rfl, A5, c5, ho5, hmn, _⟩
    have hb5 := out_keep ho4 hmn hb4 hp
    have hm5 := out_more ho4 hmn hm4 hq
    have hB5 : q ≤ w5.heap.size := Nat.le_of_lt ho5.1.lt
    clear hmn
    try simp -implicitDefEqProofs (maxSteps := 1000000) only [↓zvD, zvU, ↓zvE, zvM, init, one, Value.cells, simprocAttr, tyF, hb5.cell, FlowM.c0, FlowM.c1, FlowM.cS hf, FlowM.cD hf]
    have hs5 := Cs.takeB (flow_dst hb5 hf) 16
    refine call_ok Tryz.call259 (by have := out_raw w5 q q A5 c5 _ _ _ 16 ho5 hs5 (by simp; omega) (by omega) hB5; rw [e17] at this; exact this) ?_
    rintro _ w6 ⟨rfl, A6, c6, ho6, hmn, _⟩
    have hb6 := out_keep ho5 hmn hb5 hp
    have hm6 := out_more ho5 hmn hm5 hq
    have hB6 : q ≤ w6.heap.size := Nat.le_of_lt ho6.1.lt
    clear hmn
    try simp -implicitDefEqProofs (maxSteps := 1000000) only [↓zvD, zvU, ↓zvE, zvM, init, one, Value.cells, simprocAttr, tyF, hb6.cell, FlowM.c0, FlowM.c1, FlowM.cS hf, FlowM.cD hf]
    refine call_ok Tryz.call260 (out_u16 w6 q q A6 c6 _ _ ho6 (by simp; omega) ⟨hf.s0, hf.s1⟩ hB6) ?_
    rintro _ w7 ⟨rfl, A7, c7, ho7, hmn, _⟩
    have hb7 := out_keep ho6 hmn hb6 hp
    have hm7 := out_more ho6 hmn hm6 hq
    have hB7 : q ≤ w7.heap.size := Nat.le_of_lt ho7.1.lt
    clear hmn
    try simp -implicitDefEqProofs (maxSteps := 1000000) only [↓zvD, zvU, ↓zvE, zvM, init, one, Value.cells, simprocAttr, tyF, hb7.cell, FlowM.c0, FlowM.c1, FlowM.cS hf, FlowM.cD hf]
    refine call_ok Tryz.call260 (out_u16 w7 q q A7 c7 _ _ ho7 (by simp [numB_len]; omega) ⟨hf.d0, hf.d1⟩ hB7) ?_
    rintro _ w8 ⟨rfl, A8, c8, ho8, hmn, _⟩
    have hb8 := out_keep ho7 hmn hb7 hp
    have hm8 := out_more ho7 hmn hm7 hq
    have hB8 : q ≤ w8.heap.size := Nat.le_of_lt ho8.1.lt
    clear hmn
    try simp -implicitDefEqProofs (maxSteps := 1000000) only [↓zvD, zvU, ↓zvE, zvM, init, one, Value.cells, simprocAttr, tyF, hb8.cell, FlowM.c0, FlowM.c1, FlowM.cS hf, FlowM.cD hf]
    have hk : [] ++ [u8 6] ++ [u8 f.proto] ++ f.src.take 16 ++ f.dst.take 16 ++ numB f.sp 2 ++ numB f.dp 2 = keyM f := by simp only [keyM, adrN, hv, if_true, if_false, Bool.false_eq_true, List.nil_append]
    rw [hk] at ho8
    refine call_ok Tryz.call261 (out_bytes w8 q q A8 c8 _ ho8 (by rw [← hk]; simp [numB_len]; omega)) ?_
    rintro _ w9 ⟨A9, c9, rfl, ho9, hm9⟩
    simp -implicitDefEqProofs (maxSteps := 1000000) only [↓zvD, zvU, ↓zvE, zvM, init, one, Value.cells, simprocAttr, tyF]
    exact ⟨A9, c9, rfl, ho9.mono hm8.size, hm8.trans hm9⟩
  · simp -implicitDefEqProofs (maxSteps := 1000000) only [↓zvD, zvU, ↓zvE, zvM, init, one, Value.cells, simprocAttr, tyF, zerOut]
    generalize w1.alloc (.cells #[.slice none 0 0] 395) = w2 at hm2 ho2 s2 ⊢
    have hb2 := hb1.more hm2
    replace hm2 := hm1.trans hm2
    have hp : w.heap.size < w1.heap.size := by omega
    have hq : w.heap.size ≤ w1.heap.size := by omega
    have hB2 : w1.heap.size ≤ w2.heap.size := by omega
    clear hb1 hm1 s1 s2
    generalize w1.heap.size = q at hp hq hB2 ho2 ⊢
    have e16 : (f.src.take 4).length = 4 := by simp [hf.src]
    have e17 : (f.dst.take 4).length = 4 := by simp [hf.dst]
    refine call_ok Tryz.call258 (out_u8 w2 q q none 0 [] 4 (by omega) (by omega) ho2 (by simp) hB2) ?_
    rintro _ w3 ⟨rfl, A3, c3, ho3, hmn, _⟩
    have hb3 := out_keep ho2 hmn hb2 hp
    have hm3 := out_more ho2 hmn hm2 hq
    have hB3 : q ≤ w3.heap.size := Nat.le_of_lt ho3.1.lt
    clear hmn
    try simp -implicitDefEqProofs (maxSteps := 1000000) only [↓zvD, zvU, ↓zvE, zvM, init, one, Value.cells, simprocAttr, tyF, hb3.cell, FlowM.c0, FlowM.c1, FlowM.cS hf, FlowM.cD hf]
    refine call_ok Tryz.call258 (out_u8 w3 q q A3 c3 _ _ hf.p0 hf.p1 ho3 (by simp) hB3) ?_
    rintro _ w4 ⟨rfl, A4, c4, ho4, hmn, _⟩
    have hb4 := out_keep ho3 hmn hb3 hp
    have hm4 := out_more ho3 hmn hm3 hq
    have hB4 : q ≤ w4.heap.size := Nat.le_of_lt ho4.1.lt
    clear hmn
    try simp -implicitDefEqProofs (maxSteps := 1000000) only [↓zvD, zvU, ↓zvE, zvM, init, one, Value.cells, simprocAttr, tyF, hb4.cell, FlowM.c0, FlowM.c1, FlowM.cS hf, FlowM.cD hf]
    have hs4 := Cs.takeB (flow_src hb4 hf) 4
    refine call_ok Tryz.call259 (by have := out_raw w4 q q A4 c4 _ _ _ 16 ho4 hs4 (by simp) (by omega) hB4; rw [e16] at this; exact this) ?_
    rintro _ w5 ⟨rfl, A5, c5, ho5, hmn, _⟩
    have hb5 := out_keep ho4 hmn hb4 hp
    have hm5 := out_more ho4 hmn hm4 hq
    have hB5 : q ≤ w5.heap.size := Nat.le_of_lt ho5.1.lt
    clear hmn
    try simp -implicitDefEqProofs (maxSteps := 1000000) only [↓zvD, zvU, ↓zvE, zvM, init, one, Value.cells, simprocAttr, tyF, hb5.cell, FlowM.c0, FlowM.c1, FlowM.cS hf, FlowM.cD hf]
    have hs5 := Cs.takeB (flow_dst hb5 hf) 4
    refine call_ok Tryz.call259 (by have := out_raw w5 q q A5 c5 _ _ _ 16 ho5 hs5 (by simp; omega) (by omega) hB5; rw [e17] at this; exact this) ?_
    rintro _ w6 ⟨rfl, A6, c6, ho6, hmn, _⟩
    have hb6 := out_keep ho5 hmn hb5 hp
    have hm6 := out_more ho5 hmn hm5 hq
    have hB6 : q ≤ w6.heap.size := Nat.le_of_lt ho6.1.lt
    clear hmn
    try simp -implicitDefEqProofs (maxSteps := 1000000) only [↓zvD, zvU, ↓zvE, zvM, init, one, Value.cells, simprocAttr, tyF, hb6.cell, FlowM.c0, FlowM.c1, FlowM.cS hf, FlowM.cD hf]
    refine call_ok Tryz.call260 (out_u16 w6 q q A6 c6 _ _ ho6 (by simp; omega) ⟨hf.s0, hf.s1⟩ hB6) ?_
    rintro _ w7 ⟨rfl, A7, c7, ho7, hmn, _⟩
    have hb7 := out_keep ho6 hmn hb6 hp
    have hm7 := out_more ho6 hmn hm6 hq
    have hB7 : q ≤ w7.heap.size := Nat.le_of_lt ho7.1.lt
    clear hmn
    try simp -implicitDefEqProofs (maxSteps := 1000000) only [↓zvD, zvU, ↓zvE, zvM, init, one, Value.cells, simprocAttr, tyF, hb7.cell, FlowM.c0, FlowM.c1, FlowM.cS hf, FlowM.cD hf]
    refine call_ok Tryz.call260 (out_u16 w7 q q A7 c7 _ _ ho7 (by simp [numB_len]; omega) ⟨hf.d0, hf.d1⟩ hB7) ?_
    rintro _ w8 ⟨rfl, A8, c8, ho8, hmn, _⟩
    have hb8 := out_keep ho7 hmn hb7 hp
    have hm8 := out_more ho7 hmn hm7 hq
    have hB8 : q ≤ w8.heap.size := Nat.le_of_lt ho8.1.lt
    clear hmn
    try simp -implicitDefEqProofs (maxSteps := 1000000) only [↓zvD, zvU, ↓zvE, zvM, init, one, Value.cells, simprocAttr, tyF, hb8.cell, FlowM.c0, FlowM.c1, FlowM.cS hf, FlowM.cD hf]
    have hk : [] ++ [u8 4] ++ [u8 f.proto] ++ f.src.take 4 ++ f.dst.take 4 ++ numB f.sp 2 ++ numB f.dp 2 = keyM f := by simp only [keyM, adrN, hv, if_true, if_false, Bool.false_eq_true, List.nil_append]
    rw [hk] at ho8
    refine call_ok Tryz.call261 (out_bytes w8 q q A8 c8 _ ho8 (by rw [← hk]; simp [numB_len]; omega)) ?_
    rintro _ w9 ⟨A9, c9, rfl, ho9, hm9⟩
    simp -implicitDefEqProofs (maxSteps := 1000000) only [↓zvD, zvU, ↓zvE, zvM, init, one, Value.cells, simprocAttr, tyF]
    exact ⟨A9, c9, rfl, ho9.mono hm8.size, hm8.trans hm9⟩
end Go.Proofs.YtofhbonnojooeaaGreat

