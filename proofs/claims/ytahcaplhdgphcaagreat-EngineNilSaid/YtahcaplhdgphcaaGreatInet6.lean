/-
  Layer 10: what inet6.Parse comes to.
-/
import Derived.Test.YtahcaplhdgphcaaGreatNetM
import Derived.Test.YtahcaplhdgphcaaGreatEq
namespace Go.Proofs.YtahcaplhdgphcaaGreat
open Go Go.RowKit Go.Proofs.RV
set_option linter.unusedSimpArgs false
set_option linter.unusedVariables false
set_option maxRecDepth 10000
set_option maxHeartbeats 4000000

def more6 (p : Int) : Bool := decide (p = 0) || decide (p = 43) || decide (p = 60) || decide (p = 44)
def head6 (p : Int) (l : List UInt8) : Nat := if p = 44 then 8 else 8 * ((l.getD 1 0).toNat + 1)
def late6 (p : Int) (l : List UInt8) : Bool := if p = 44 then !decide (two l 2 / 8 = 0) else false
/-- a head is passed -/
def pass6 (p : Int) (l : List UInt8) : Option (List UInt8 × Bool) :=
  if l.length < 8 then none else if l.length < head6 p l then none else some (l.drop (head6 p l), late6 p l)
/-- the reason, the protocol, the body, whether it is the first piece -/
def go6 : Nat → Int → List UInt8 → Bool → Int × Int × List UInt8 × Bool
  | 0, p, l, later => if (more6 p && !later) = true then (6, 0, [], false) else (0, p, l, !later)
  | r + 1, p, l, later => if (more6 p && !later) = true then (match pass6 p l with | none => (1, 0, [], false) | some (x, is) => go6 r (bt l 0) x is) else (0, p, l, !later)
def walk6 (l : List UInt8) : Int × Int × List UInt8 × Bool :=
  if l.length < 40 then (1, 0, [], false) else
  if bt l 0 / 16 ≠ 6 then (3, 0, [], false) else
  if (l.length : Int) < 40 + two l 4 then (5, 0, [], false) else go6 8 (bt l 6) ((l.take (40 + two l 4).toNat).drop 40) false
def why6 (l : List UInt8) : Int := (walk6 l).1
def parse6 (l : List UInt8) : NetM := if why6 l = 0 then ⟨(walk6 l).2.1, (l.drop 8).take 16, (l.drop 24).take 16, (walk6 l).2.2.1, (walk6 l).2.2.2⟩ else netNone
theorem inet6_two (w : World) (A : Option Addr) (l : List UInt8) (c : Nat) (i : Nat) (hA : Bs w A l) (hl : l.length ≤ 1000000) (h : i + 1 < l.length) :
    Ret Tryz.prog 119 #[.slice A l.length c, .int .i64 i] w fun v w' => v = .int .i64 (two l i) ∧ More w w' := by
  refine ret_of Tryz.func119 rfl (by kernel_rfl) (Nat.le_of_ble_eq_true (by kernel_rfl)) ?_
  obtain ⟨a, rfl⟩ := hA.isAt (by omega)
  have c0 := hA.cellN (i := i) (by omega)
  have c1 := hA.cellN (i := i + 1) (by omega)
  have hab := hA.blk_lt (by omega)
  have g0 : (i : Int) < l.length := by omega
  have g1 : ((i + 1 : Nat) : Int) < l.length := by omega
  have g2 : (0 : Int) ≤ i := by omega
  have g3 : (0 : Int) ≤ ((i + 1 : Nat) : Int) := by omega
  have e1 : IntKind.i64.wrap ((i : Int) + 1) = ((i + 1 : Nat) : Int) := w64 (by omega) (by omega)
  have e2 : bits .or .i64 (IntKind.i64.wrap (IntKind.i64.wrap (bt l i) * 2 ^ min 8 IntKind.i64.bits)) (IntKind.i64.wrap (bt l (i + 1))) = two l i := by
    have := bt_nonneg l i; have := bt_lt l i; have := bt_nonneg l (i + 1); have := bt_lt l (i + 1)
    rw [w64_byte, w64_byte, shl8, w64 (x := bt l i * 256) (by omega) (by omega), or_byte (by omega) (by omega) (by omega) (by omega)]
    rfl
  generalize bt l i = x0 at c0 e2
  generalize bt l (i + 1) = x1 at c1 e2
  simp (config := {maxSteps := 1000000, implicitDefEqProofs := false}) only [↓zvD, zvU, ↓up_apply, ↓hv_apply, ↓upO_some, ↓upO_none, ↓ev_tmp, ↓ev_const, ↓ev_func, ↓ev_global, init, Nat.reduceEqDiff, Nat.reduceAdd, Nat.reduceMul, Nat.reduceSub, ↓reduceIte, Int.reduceEq, Int.reduceNe, Nat.reduceLeDiff, one, Value.cells, Int.reduceLE, Int.reduceLT, Int.reduceToNat, add_mk, reduceCtorEq, List.mem_range'_1, true_and, and_true, and_false, false_and, Nat.reduceLT, Nat.reduceLeDiff, tyF]
  refine draw_calm mixed (by kernel_rfl) ?_
  simp (config := {maxSteps := 1000000, implicitDefEqProofs := false}) only [↓zvD, zvU, ↓zqD, ↓up_apply, ↓hv_apply, ↓upO_some, ↓upO_none, ↓ev_tmp, ↓ev_const, ↓ev_func, ↓ev_global, init, Nat.reduceEqDiff, Nat.reduceAdd, Nat.reduceMul, Nat.reduceSub, ↓reduceIte, Int.reduceEq, Int.reduceNe, Nat.reduceLeDiff, one, Value.cells, Int.reduceLE, Int.reduceLT, Int.reduceToNat, add_mk, reduceCtorEq, List.mem_range'_1, true_and, and_true, and_false, false_and, Nat.reduceLT, Nat.reduceLeDiff, tyF, c0, c1, g0, g1, g2, g3, hab, add_block, e1, e2, Int.toNat_natCast]
  intro w2 hm2
  exact hm2
theorem inet6_more (w : World) (p : Int) : Ret Tryz.prog 120 #[.int .u8 p] w fun v w' => v = .bool (more6 p) ∧ w' = w := by
  refine ret_of Tryz.func120 rfl (by kernel_rfl) (Nat.le_of_ble_eq_true (by kernel_rfl)) ?_
  unfold more6
  by_cases h1 : p = 0
  · subst h1
    simp (config := {maxSteps := 1000000, implicitDefEqProofs := false}) only [↓zvD, zvU, ↓up_apply, ↓hv_apply, ↓upO_some, ↓upO_none, ↓ev_tmp, ↓ev_const, ↓ev_func, ↓ev_global, init, Nat.reduceEqDiff, Nat.reduceAdd, Nat.reduceMul, Nat.reduceSub, ↓reduceIte, Int.reduceEq, Int.reduceNe, Nat.reduceLeDiff, one, Value.cells, Int.reduceLE, Int.reduceLT, Int.reduceToNat, add_mk, reduceCtorEq, List.mem_range'_1, true_and, and_true, and_false, false_and, Nat.reduceLT, Nat.reduceLeDiff, tyF, Bool.true_or]
  by_cases h2 : p = 43
  · subst h2
    simp (config := {maxSteps := 1000000, implicitDefEqProofs := false}) only [↓zvD, zvU, ↓up_apply, ↓hv_apply, ↓upO_some, ↓upO_none, ↓ev_tmp, ↓ev_const, ↓ev_func, ↓ev_global, init, Nat.reduceEqDiff, Nat.reduceAdd, Nat.reduceMul, Nat.reduceSub, ↓reduceIte, Int.reduceEq, Int.reduceNe, Nat.reduceLeDiff, one, Value.cells, Int.reduceLE, Int.reduceLT, Int.reduceToNat, add_mk, reduceCtorEq, List.mem_range'_1, true_and, and_true, and_false, false_and, Nat.reduceLT, Nat.reduceLeDiff, tyF, Bool.true_or, Bool.false_or]
  by_cases h3 : p = 60
  · subst h3
    simp (config := {maxSteps := 1000000, implicitDefEqProofs := false}) only [↓zvD, zvU, ↓up_apply, ↓hv_apply, ↓upO_some, ↓upO_none, ↓ev_tmp, ↓ev_const, ↓ev_func, ↓ev_global, init, Nat.reduceEqDiff, Nat.reduceAdd, Nat.reduceMul, Nat.reduceSub, ↓reduceIte, Int.reduceEq, Int.reduceNe, Nat.reduceLeDiff, one, Value.cells, Int.reduceLE, Int.reduceLT, Int.reduceToNat, add_mk, reduceCtorEq, List.mem_range'_1, true_and, and_true, and_false, false_and, Nat.reduceLT, Nat.reduceLeDiff, tyF, Bool.true_or, Bool.false_or]
  simp (config := {maxSteps := 1000000, implicitDefEqProofs := false}) only [↓zvD, zvU, ↓up_apply, ↓hv_apply, ↓upO_some, ↓upO_none, ↓ev_tmp, ↓ev_const, ↓ev_func, ↓ev_global, init, Nat.reduceEqDiff, Nat.reduceAdd, Nat.reduceMul, Nat.reduceSub, ↓reduceIte, Int.reduceEq, Int.reduceNe, Nat.reduceLeDiff, one, Value.cells, Int.reduceLE, Int.reduceLT, Int.reduceToNat, add_mk, reduceCtorEq, List.mem_range'_1, true_and, and_true, and_false, false_and, Nat.reduceLT, Nat.reduceLeDiff, tyF, h1, h2, h3, Bool.false_or]
/-- what a head leaves -/
def PassR (A : Option Addr) (c : Nat) (p : Int) (l : List UInt8) (w : World) (v : Value) (w' : World) : Prop :=
  (pass6 p l = none ∧ v = .tuple #[.slice none 0 0, .bool false, .bool false] ∨ 8 ≤ l.length ∧ head6 p l ≤ l.length ∧ pass6 p l = some (l.drop (head6 p l), late6 p l) ∧ v = .tuple #[.slice (adv A c (head6 p l) 1) (l.length - head6 p l) (c - head6 p l), .bool (late6 p l), .bool true]) ∧ More w w'
theorem inet6_pass (w : World) (A : Option Addr) (l : List UInt8) (c : Nat) (p : Int) (hA : Bs w A l) (hc : l.length ≤ c) (hl : l.length ≤ 1000000) :
    Ret Tryz.prog 121 #[.int .u8 p, .slice A l.length c] w (PassR A c p l w) := by
  refine ret_of Tryz.func121 rfl (by kernel_rfl) (Nat.le_of_ble_eq_true (by kernel_rfl)) ?_
  have none : ∀ w', More w w' → pass6 p l = none → PassR A c p l w (.tuple #[.slice none 0 0, .bool false, .bool false]) w' := fun w' hm h => ⟨.inl ⟨h, rfl⟩, hm⟩
  have some : ∀ w', More w w' → 8 ≤ l.length → head6 p l ≤ l.length → PassR A c p l w (.tuple #[.slice (adv A c (head6 p l) 1) (l.length - head6 p l) (c - head6 p l), .bool (late6 p l), .bool true]) w' := fun w' hm h8 h => ⟨.inr ⟨h8, h, by unfold pass6; rw [if_neg (by omega), if_neg (by omega)], rfl⟩, hm⟩
  simp (config := {maxSteps := 1000000, implicitDefEqProofs := false}) only [↓zvD, zvU, ↓up_apply, ↓hv_apply, ↓upO_some, ↓upO_none, ↓ev_tmp, ↓ev_const, ↓ev_func, ↓ev_global, init, Nat.reduceEqDiff, Nat.reduceAdd, Nat.reduceMul, Nat.reduceSub, ↓reduceIte, Int.reduceEq, Int.reduceNe, Nat.reduceLeDiff, one, Value.cells, Int.reduceLE, Int.reduceLT, Int.reduceToNat, add_mk, reduceCtorEq, List.mem_range'_1, true_and, and_true, and_false, false_and, Nat.reduceLT, Nat.reduceLeDiff, tyF]
  refine ⟨fun h1 => none _ (More.refl w) (by unfold pass6; rw [if_pos (by omega)]), fun h1 => ?_⟩
  have h8 : 8 ≤ l.length := by omega
  by_cases h44 : p = 44
  · have hh : head6 p l = 8 := by unfold head6; rw [if_pos h44]
    have hla : late6 p l = !decide (two l 2 / 8 = 0) := by unfold late6; rw [if_pos h44]
    rw [hh, hla] at some
    subst h44
    simp (config := {maxSteps := 1000000, implicitDefEqProofs := false}) only [↓zvD, zvU, ↓up_apply, ↓hv_apply, ↓upO_some, ↓upO_none, ↓ev_tmp, ↓ev_const, ↓ev_func, ↓ev_global, init, Nat.reduceEqDiff, Nat.reduceAdd, Nat.reduceMul, Nat.reduceSub, ↓reduceIte, Int.reduceEq, Int.reduceNe, Nat.reduceLeDiff, one, Value.cells, Int.reduceLE, Int.reduceLT, Int.reduceToNat, add_mk, reduceCtorEq, List.mem_range'_1, true_and, and_true, and_false, false_and, Nat.reduceLT, Nat.reduceLeDiff, tyF]
    refine call_ok Tryz.call119 (inet6_two w A l c 2 hA hl (by omega)) ?_
    rintro _ w1 ⟨rfl, hm1⟩
    have t0 := two_range l 2
    have e1 : (two l 2).fdiv (2 ^ min 3 IntKind.i64.bits) = two l 2 / 8 := by
      rw [show min 3 IntKind.i64.bits = 3 from rfl, Int.fdiv_eq_ediv_of_nonneg _ (by omega)]
      rfl
    have h8i : (8 : Int) ≤ l.length := by omega
    have h8n : ¬ (l.length : Int) < 8 := by omega
    simp (config := {maxSteps := 1000000, implicitDefEqProofs := false}) only [↓zvD, zvU, ↓up_apply, ↓hv_apply, ↓upO_some, ↓upO_none, ↓ev_tmp, ↓ev_const, ↓ev_func, ↓ev_global, init, Nat.reduceEqDiff, Nat.reduceAdd, Nat.reduceMul, Nat.reduceSub, ↓reduceIte, Int.reduceEq, Int.reduceNe, Nat.reduceLeDiff, one, Value.cells, Int.reduceLE, Int.reduceLT, Int.reduceToNat, add_mk, reduceCtorEq, List.mem_range'_1, true_and, and_true, and_false, false_and, Nat.reduceLT, Nat.reduceLeDiff, tyF, e1, h8i, h8n, h8]
    exact some _ hm1 h8 h8
  · have hh : head6 p l = 8 * ((l.getD 1 0).toNat + 1) := by unfold head6; rw [if_neg h44]
    have hla : late6 p l = false := by unfold late6; rw [if_neg h44]
    obtain ⟨a, rfl⟩ := hA.isAt (by omega)
    have c1 := hA.cellN (i := 1) (by omega)
    have g1 : (1 : Int) < l.length := by omega
    have b1 := bt_lt l 1
    have e1 : IntKind.i64.wrap (8 * IntKind.i64.wrap (IntKind.i64.wrap (bt l 1) + 1)) = ((head6 p l : Nat) : Int) := by
      have b0 := bt_nonneg l 1
      rw [w64_byte, w64 (x := bt l 1 + 1) (by omega) (by omega), w64 (by omega) (by omega), hh]
      simp [bt]
    generalize bt l 1 = x at c1 e1
    have h0 : (0 : Int) ≤ ((head6 p l : Nat) : Int) := by omega
    simp (config := {maxSteps := 1000000, implicitDefEqProofs := false}) only [↓zvD, zvU, ↓up_apply, ↓hv_apply, ↓upO_some, ↓upO_none, ↓ev_tmp, ↓ev_const, ↓ev_func, ↓ev_global, init, Nat.reduceEqDiff, Nat.reduceAdd, Nat.reduceMul, Nat.reduceSub, ↓reduceIte, Int.reduceEq, Int.reduceNe, Nat.reduceLeDiff, one, Value.cells, Int.reduceLE, Int.reduceLT, Int.reduceToNat, add_mk, reduceCtorEq, List.mem_range'_1, true_and, and_true, and_false, false_and, Nat.reduceLT, Nat.reduceLeDiff, tyF, h44, c1, g1, e1, Int.toNat_natCast]
    refine ⟨fun h2 => none _ (More.refl w) (by unfold pass6; rw [if_neg (by omega), if_pos (by omega)]), fun h2 => ?_⟩
    have h2i : ((head6 p l : Nat) : Int) ≤ l.length := by omega
    refine ⟨by omega, by omega, ?_⟩
    rw [hla] at some
    exact some _ (More.refl w) h8 (by omega)
end Go.Proofs.YtahcaplhdgphcaaGreat
