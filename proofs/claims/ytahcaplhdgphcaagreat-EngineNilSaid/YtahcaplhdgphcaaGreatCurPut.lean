/-
  Layer 2: numbers that are put.
-/
import Derived.Test.YtahcaplhdgphcaaGreatCurRef
namespace Go.Proofs.YtahcaplhdgphcaaGreat
open Go Go.RowKit Go.Proofs.RV
set_option linter.unusedSimpArgs false
set_option linter.unusedVariables false
set_option maxRecDepth 10000
set_option maxHeartbeats 2000000

theorem out_u8 (w : World) (B q : Nat) (A : Option Addr) (c : Nat) (l : List UInt8) (x : Int) (h0 : 0 ≤ x) (h1 : x < 256) (h : OutAt w B q A c l) (hl : l.length ≤ 2900000) (hB : B ≤ w.heap.size) :
    Ret Tryz.prog 42 #[.pointer (some ⟨q, 0, none⟩), .int .u8 x] w fun v w' => v = .tuple #[] ∧ OutR w B q A (l ++ [u8 x]) w' := by
  refine ret_of Tryz.func42 rfl (by kernel_rfl) (Nat.le_of_ble_eq_true (by kernel_rfl)) ?_
  simp (config := {maxSteps := 1000000, implicitDefEqProofs := false}) only [↓zvD, zvU, ↓up_apply, ↓hv_apply, ↓upO_some, ↓upO_none, ↓ev_tmp, ↓ev_const, ↓ev_func, ↓ev_global, init, Nat.reduceEqDiff, Nat.reduceAdd, Nat.reduceMul, Nat.reduceSub, ↓reduceIte, Int.reduceEq, Int.reduceNe, Nat.reduceLeDiff, one, Value.cells, Int.reduceLE, Int.reduceLT, Int.reduceToNat, add_mk, reduceCtorEq, List.mem_range'_1, true_and, and_true, and_false, false_and, Nat.reduceLT, Nat.reduceLeDiff, tyF]
  refine bslice (z := .int .u8 0) (cells := #[.int .u8 x]) Tryz.underlying40 byteE (by omega) (by have := bcells_list (z := .int .u8 0) [.int .u8 x] (by intro v hv; simp at hv; subst hv; rfl); exact this) ?_
  have hm1 := more_alloc w (.cells #[.int .u8 x] 5)
  have hb1 := Blk.new w 5 #[.int .u8 x]
  generalize w.alloc (.cells #[.int .u8 x] 5) = w1 at hm1 hb1 ⊢
  simp (config := {maxSteps := 1000000, implicitDefEqProofs := false}) only [↓zvD, zvU, ↓up_apply, ↓hv_apply, ↓upO_some, ↓upO_none, ↓ev_tmp, ↓ev_const, ↓ev_func, ↓ev_global, init, Nat.reduceEqDiff, Nat.reduceAdd, Nat.reduceMul, Nat.reduceSub, ↓reduceIte, Int.reduceEq, Int.reduceNe, Nat.reduceLeDiff, one, Value.cells, Int.reduceLE, Int.reduceLT, Int.reduceToNat, add_mk, reduceCtorEq, List.mem_range'_1, true_and, and_true, and_false, false_and, Nat.reduceLT, Nat.reduceLeDiff, tyF]
  have hs : Bs w1 (some ⟨w.heap.size, 0, none⟩) [u8 x] := by
    have := hb1.cs
    unfold Bs
    rw [List.map_singleton, byteV_u8 h0 h1]
    exact this
  refine call_ok Tryz.call47 (out_raw w1 B q A c l (some ⟨w.heap.size, 0, none⟩) [u8 x] 1 (h.more hm1) hs (by omega) (by simp) (Nat.le_trans hB hm1.size)) ?_
  rintro _ w2 ⟨rfl, A', c', g1, g2, g3⟩
  simp (config := {maxSteps := 1000000, implicitDefEqProofs := false}) only [↓zvD, zvU, ↓up_apply, ↓hv_apply, ↓upO_some, ↓upO_none, ↓ev_tmp, ↓ev_const, ↓ev_func, ↓ev_global, init, Nat.reduceEqDiff, Nat.reduceAdd, Nat.reduceMul, Nat.reduceSub, ↓reduceIte, Int.reduceEq, Int.reduceNe, Nat.reduceLeDiff, one, Value.cells, Int.reduceLE, Int.reduceLT, Int.reduceToNat, add_mk, reduceCtorEq, List.mem_range'_1, true_and, and_true, and_false, false_and, Nat.reduceLT, Nat.reduceLeDiff, tyF]
  exact ⟨A', c', g1, (Mod.of_more hm1).trans g2, fun k hk => (g3 k hk).imp id fun h => Nat.le_trans hm1.size h⟩
theorem out_u64 (w : World) (B q : Nat) (A : Option Addr) (c : Nat) (l : List UInt8) (n : Int) (h : OutAt w B q A c l) (hl : l.length ≤ 2900000) (hn : 0 ≤ n) (hB : B ≤ w.heap.size) :
    Ret Tryz.prog 84 #[.pointer (some ⟨q, 0, none⟩), .int .u64 n] w fun v w' => v = .tuple #[] ∧ OutR w B q A (l ++ numB n 8) w' := by
  refine ret_of Tryz.func84 rfl (by kernel_rfl) (Nat.le_of_ble_eq_true (by kernel_rfl)) ?_
  simp (config := {maxSteps := 1000000, implicitDefEqProofs := false}) only [↓zvD, zvU, ↓up_apply, ↓hv_apply, ↓upO_some, ↓upO_none, ↓ev_tmp, ↓ev_const, ↓ev_func, ↓ev_global, init, Nat.reduceEqDiff, Nat.reduceAdd, Nat.reduceMul, Nat.reduceSub, ↓reduceIte, Int.reduceEq, Int.reduceNe, Nat.reduceLeDiff, one, Value.cells, Int.reduceLE, Int.reduceLT, Int.reduceToNat, add_mk, reduceCtorEq, List.mem_range'_1, true_and, and_true, and_false, false_and, Nat.reduceLT, Nat.reduceLeDiff, tyF]
  refine call_ok Tryz.call150 (out_number w B q A c l n 8 h hl hn (by omega) hB) ?_
  rintro _ w1 ⟨rfl, h1⟩
  exact ⟨rfl, h1⟩
theorem out_u32 (w : World) (B q : Nat) (A : Option Addr) (c : Nat) (l : List UInt8) (n : Int) (h : OutAt w B q A c l) (hl : l.length ≤ 2900000) (hn : 0 ≤ n ∧ n < 4294967296) (hB : B ≤ w.heap.size) :
    Ret Tryz.prog 86 #[.pointer (some ⟨q, 0, none⟩), .int .u32 n] w fun v w' => v = .tuple #[] ∧ OutR w B q A (l ++ numB n 4) w' := by
  refine ret_of Tryz.func86 rfl (by kernel_rfl) (Nat.le_of_ble_eq_true (by kernel_rfl)) ?_
  have e1 : IntKind.u64.wrap n = n := wu64 hn.1 (by omega)
  simp (config := {maxSteps := 1000000, implicitDefEqProofs := false}) only [↓zvD, zvU, ↓up_apply, ↓hv_apply, ↓upO_some, ↓upO_none, ↓ev_tmp, ↓ev_const, ↓ev_func, ↓ev_global, init, Nat.reduceEqDiff, Nat.reduceAdd, Nat.reduceMul, Nat.reduceSub, ↓reduceIte, Int.reduceEq, Int.reduceNe, Nat.reduceLeDiff, one, Value.cells, Int.reduceLE, Int.reduceLT, Int.reduceToNat, add_mk, reduceCtorEq, List.mem_range'_1, true_and, and_true, and_false, false_and, Nat.reduceLT, Nat.reduceLeDiff, tyF, e1]
  refine call_ok Tryz.call150 (out_number w B q A c l n 4 h hl hn.1 (by omega) hB) ?_
  rintro _ w1 ⟨rfl, h1⟩
  exact ⟨rfl, h1⟩
theorem out_keep {w w' : World} {B q c p e : Nat} {A : Option Addr} {l : List UInt8} {cs : List Value} (h : OutAt w B q A c l) (hm : Mod (outS q A) w w') (hb : Blk w p e cs) (hp : p < B) : Blk w' p e cs :=
  hm.blk hb fun hk => by have := (h.ge hk).1; omega
theorem out_more {w0 w w' : World} {B q c : Nat} {A : Option Addr} {l : List UInt8} (h : OutAt w B q A c l) (hm : Mod (outS q A) w w') (h0 : More w0 w) (hB : w0.heap.size ≤ B) : More w0 w' :=
  Mod.more h0 hm fun k hk hs => by have := (h.ge hs).1; omega
theorem pow_cast (a b : Nat) : ((256 ^ (a + b) : Nat) : Int) = ((256 ^ a : Nat) : Int) * ((256 ^ b : Nat) : Int) := by
  rw [Nat.pow_add]; simp
theorem dig_high (a r : Int) (m k : Nat) (h : k < m) : dig (a * (256 ^ m : Nat) + r) k = dig r k := by
  unfold dig
  obtain ⟨d, rfl⟩ : ∃ d, m = k + 1 + d := ⟨m - k - 1, by omega⟩
  have e : a * ((256 ^ (k + 1 + d) : Nat) : Int) + r = r + (a * ((256 ^ d : Nat) : Int) * 256) * ((256 ^ k : Nat) : Int) := by
    have : (256 ^ (k + 1 + d) : Nat) = 256 ^ d * 256 * 256 ^ k := by
      rw [show k + 1 + d = d + 1 + k by omega, Nat.pow_add, Nat.pow_succ]
    rw [this]
    simp only [Int.natCast_mul]
    rw [← Int.mul_assoc, ← Int.mul_assoc, Int.add_comm]
    rfl
  have hp : ((256 ^ k : Nat) : Int) ≠ 0 := by have : 0 < 256 ^ k := Nat.pow_pos (by omega); omega
  rw [e, Int.add_mul_ediv_right _ _ hp, Int.add_mul_emod_self_right]
theorem numB_high (a r : Int) (m : Nat) : ∀ k, k ≤ m → numB (a * (256 ^ m : Nat) + r) k = numB r k
  | 0, _ => rfl
  | k + 1, h => by rw [numB, numB, dig_high a r m k (by omega), numB_high a r m k (by omega)]
theorem numB_be : ∀ l : List UInt8, numB (be l) l.length = l
  | [] => rfl
  | b :: l => by
    have hr := be_range l
    rw [be_cons, List.length_cons, numB, numB_high _ _ _ _ (Nat.le_refl _), numB_be l]
    have hd : dig ((b.toNat : Int) * (256 ^ l.length : Nat) + be l) l.length = b.toNat := by
      unfold dig
      have hp : ((256 ^ l.length : Nat) : Int) ≠ 0 := by have : 0 < 256 ^ l.length := Nat.pow_pos (by omega); omega
      rw [Int.add_comm, Int.add_mul_ediv_right _ _ hp, Int.ediv_eq_zero_of_lt hr.1 hr.2]
      have := b.toNat_lt
      omega
    rw [hd]
    congr 1
    unfold u8
    simp
theorem numB_mod {x : Int} (m : Nat) : numB (x % (256 ^ m : Nat)) m = numB x m := by
  have h : x = (x / (256 ^ m : Nat)) * (256 ^ m : Nat) + x % (256 ^ m : Nat) := by
    have := Int.emod_add_mul_ediv x (256 ^ m : Nat)
    rw [Int.mul_comm] at this
    omega
  conv => rhs; rw [h]
  exact (numB_high _ _ _ _ (Nat.le_refl _)).symm
end Go.Proofs.YtahcaplhdgphcaaGreat
