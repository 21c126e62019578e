/-
  Texts that the law stands on, part 13.
-/
import Derived.Test.YtofhbonnojooeaaGreatKPoliceBoxed12
namespace Go.Proofs.YtofhbonnojooeaaGreat
open Go Go.RowKit Go.Proofs.RV
set_option linter.unusedSimpArgs false
set_option linter.unusedVariables false
set_option maxRecDepth 10000
set_option maxHeartbeats 4000000
theorem cs_lt {w : World} {a : Addr} {cs : List Value} (h : Cs w (some a) cs) (h0 : 0 < cs.length) : a.block < w.heap.size := by
  cases cs with
  | nil => simp at h0
  | cons v r =>
    obtain ⟨x, hx, hl⟩ := Cs.lt h
    cases hx
    exact hl

theorem call_clo {P : Program} {k : Nat} {args fv : Array Value} {w : World} {R K : Value → World → Prop} (hc : ∀ args w, (callFunc k args).run P w = .ok (.enter k args) w) (h : Ret P k (args ++ fv) w R) (hK : ∀ v w', R v w' → K v w') :
    callP P (.func (.func k) #[] fv) args w K := by
  refine .inl ⟨hc, ?_⟩
  rw [Array.empty_append]
  exact h.mono hK
theorem mkfunc_eq {P : Program} (fn : Fn) (a c : Array Value) (w0 : World) (K : Value → Prop) : pureP P (Instr.makeFunc fn a c) K = K (.func fn a c) := by
  refine pure_eq (fun w => ?_) w0 K
  unfold Instr.makeFunc
  rw [Sem.run_pure]
structure BlueK where
  levels : Nat
  bins : Nat
  target : Int
  hold : Int
  up : Int
  down : Int
structure BlueK.Ok (k : BlueK) : Prop where
  l : 1 ≤ k.levels ∧ k.levels ≤ 4
  b : 1 ≤ k.bins ∧ k.bins ≤ 64
  t : 0 ≤ k.target ∧ k.target ≤ 1073741824
  h : 0 ≤ k.hold ∧ k.hold ≤ 4611686018427387903
  u : 0 ≤ k.up ∧ k.up ≤ 65536
  d : 0 ≤ k.down ∧ k.down ≤ 65536
def BlueK.cells (k : BlueK) (b n : Nat) : List Value := [.slice (some ⟨b, 0, none⟩) n n, .int .i64 k.levels, .int .i64 k.bins, .int .i64 k.target, .int .i64 k.hold, .int .i64 k.up, .int .i64 k.down]
theorem blue_h0 {w : World} {p b n : Nat} {k : BlueK} (h : Blk w p 236 (k.cells b n)) : w.cell? ⟨p, 0, none⟩ = some (.slice (some ⟨b, 0, none⟩) n n) ∧ w.cell? ⟨p, 1, none⟩ = some (.int .i64 k.levels) ∧ w.cell? ⟨p, 2, none⟩ = some (.int .i64 k.bins) ∧ w.cell? ⟨p, 3, none⟩ = some (.int .i64 k.target) ∧ w.cell? ⟨p, 4, none⟩ = some (.int .i64 k.hold) ∧ w.cell? ⟨p, 5, none⟩ = some (.int .i64 k.up) ∧ w.cell? ⟨p, 6, none⟩ = some (.int .i64 k.down) := by
  refine ⟨?_, ?_, ?_, ?_, ?_, ?_, ?_⟩ <;> rw [h.cell] <;> rfl
def BinsOk (k : BlueK) (xs : List Int) : Prop := xs.length = k.levels ∧ ∀ x ∈ xs, 0 ≤ x ∧ x < k.bins
def FlJ (w0 : World) (L : Nat) (v20 : Value) (w : World) : Prop := ∃ i : Nat, v20 = .int .i64 i ∧ i ≤ L ∧ w = w0
theorem blue_flows (w : World) (p b n : Nat) (k : BlueK) (hk : k.Ok) (hb : Blk w p 236 (k.cells b n)) (A : Option Addr) (c : Nat) (xs : List Int) (hA : Cs w A (ints xs)) (hx : BinsOk k xs) :
    Ret Tryz.prog 213 #[.pointer (some ⟨p, 0, none⟩), .slice A xs.length c] w fun v w' => v = .bool true ∧ w' = w := by
  refine ret_of Tryz.func213 rfl (by kernel_rfl) (Nat.le_of_ble_eq_true (by kernel_rfl)) ?_
  obtain ⟨h0, h1, h2, h3, h4, h5, h6⟩ := blue_h0 hb
  have hxl := hx.1
  have hkl := hk.l
  have e1 : (xs.length : Int) = (k.levels : Int) := by omega
  simp -implicitDefEqProofs (maxSteps := 1000000) only [↓zvN, zvU, ↓zvE, zvM, init, one, Value.cells, simprocAttr, tyF, h1, e1]
  refine loop_p (6 :: List.range' 20 15) (fun e w' => FlJ w k.levels (e 20) w') (fun e _ => k.levels - (numOf (e 20)).toNat) ?_ ?_
  · exact ⟨0, by simp only [hv_apply, up_apply, upO_some, upO_none, init, List.mem_cons, List.mem_range'_1, true_and, and_true, and_false, false_and, Nat.reduceLT, Nat.reduceLeDiff, Nat.reduceAdd, true_or, or_true, if_true, if_false, ↓reduceIte, Nat.reduceEqDiff, false_or, or_false, List.not_mem_nil, List.getElem?_cons_zero, List.getElem?_cons_succ, Option.getD_some] <;> rfl, by omega, rfl⟩
  rintro v w1 ⟨i, h20, hi, rfl⟩
  simp only [hv_apply, up_apply, upO_some, upO_none, init, List.mem_cons, List.mem_range'_1, true_and, and_true, and_false, false_and, Nat.reduceLT, Nat.reduceLeDiff, Nat.reduceAdd, true_or, or_true, if_true, if_false, ↓reduceIte, Nat.reduceEqDiff, false_or, or_false, List.not_mem_nil, List.getElem?_cons_zero, List.getElem?_cons_succ, Option.getD_some] at h20
  have ei : IntKind.i64.wrap ((i : Int) + 1) = ((i + 1 : Nat) : Int) := w64 (by omega) (by omega)
  simp -implicitDefEqProofs (maxSteps := 1000000) only [↓zvN, zvU, ↓zvE, zvM, init, one, Value.cells, simprocAttr, tyF, h20]
  intro c9
  · have g0 : (0 : Int) ≤ (i : Int) := by omega
    have g1 : (i : Int) < (xs.length : Int) := by omega
    obtain ⟨x, hxi⟩ : ∃ x, xs[i]? = some x := ⟨xs[i]'(by omega), List.getElem?_eq_getElem _⟩
    have hxr := hx.2 x (List.mem_of_getElem? hxi)
    obtain ⟨a, rfl⟩ := hA.some_of (by rw [ints_len]; omega)
    have cx : w1.cell? (a.add i) = some (.int .i64 x) := by
      obtain ⟨y, hy, hc⟩ := hA i _ (ints_get hxi)
      cases hy
      exact hc
    have x0 : ¬ x < 0 := by omega
    have x1 : ¬ (k.bins : Int) ≤ x := by omega
    simp -implicitDefEqProofs (maxSteps := 1000000) only [↓zvN, zvU, ↓zvE, zvM, init, one, Value.cells, simprocAttr, tyF, h20, g0, g1, c9, e1, cx, x0, x1, h2, ei, Int.toNat_natCast]
    refine ⟨⟨?_, i + 1, rfl, by omega, rfl⟩, by simp only [numOf]; omega⟩
    repeat (first | exact Same.hv _ _ _ | refine Same.hv2 (fun s hs => mem_allK (by decide) hs) ?_ | refine Same.up (by simp) ?_)
def binAt (k : BlueK) (xs : List Int) (i : Nat) : Nat := i * k.bins + (xs.getD i 0).toNat
theorem binAt_lt {k : BlueK} {xs : List Int} (hx : BinsOk k xs) {i : Nat} (hi : i < k.levels) : binAt k xs i < k.levels * k.bins := by
  have hil : i < xs.length := by rw [hx.1]; exact hi
  have := hx.2 (xs.getD i 0) (by rw [List.getD_eq_getElem?_getD, List.getElem?_eq_getElem hil]; exact List.getElem_mem hil)
  unfold binAt
  have h2 : (i + 1) * k.bins ≤ k.levels * k.bins := Nat.mul_le_mul_right _ hi
  rw [Nat.add_mul, Nat.one_mul] at h2
  omega
def EachJ (I : Nat → World → Prop) (L : Nat) (v15 : Value) (w : World) : Prop := ∃ i : Nat, v15 = .int .i64 i ∧ i ≤ L ∧ I i w
theorem blue_each (w : World) (p b : Nat) (k : BlueK) (hk : k.Ok) (A : Option Addr) (c : Nat) (xs : List Int) (hx : BinsOk k xs) (fn : Nat) (fv : Array Value) (hc : ∀ args w, (callFunc fn args).run Tryz.prog w = .ok (.enter fn args) w) (I : Nat → World → Prop)
    (hI0 : I 0 w) (hI : ∀ i w', I i w' → Blk w' p 236 (k.cells b (k.levels * k.bins)) ∧ Cs w' A (ints xs)) (hIm : ∀ i w' w'', I i w' → More w' w'' → I i w'')
    (hs : ∀ i w', i < k.levels → I i w' → Ret Tryz.prog fn (#[.pointer (some ⟨b, binAt k xs i * 3, none⟩)] ++ fv) w' fun u w'' => u = .tuple #[] ∧ I (i + 1) w'') :
    Ret Tryz.prog 151 #[.pointer (some ⟨p, 0, none⟩), .slice A xs.length c, .func (.func fn) #[] fv] w fun v w' => v = .bool true ∧ I k.levels w' := by
  refine ret_of Tryz.func151 rfl (by kernel_rfl) (Nat.le_of_ble_eq_true (by kernel_rfl)) ?_
  obtain ⟨hb, hA⟩ := hI 0 w hI0
  have hxl := hx.1
  have hkl := hk.l
  have hkb := hk.b
  have e1 : (xs.length : Int) = (k.levels : Int) := by omega
  simp -implicitDefEqProofs (maxSteps := 1000000) only [↓zvN, zvU, ↓zvE, zvM, init, one, Value.cells, simprocAttr, tyF]
  refine call_ok Tryz.call213 (blue_flows w p b _ k hk hb A c xs hA hx) ?_
  rintro _ w1 ⟨rfl, rfl⟩
  simp -implicitDefEqProofs (maxSteps := 1000000) only [↓zvN, zvU, ↓zvE, zvM, init, one, Value.cells, simprocAttr, tyF, e1]
  refine loop_p (7 :: 8 :: List.range' 15 21) (fun e w' => EachJ I k.levels (e 15) w') (fun e _ => k.levels - (numOf (e 15)).toNat) ?_ ?_
  · exact ⟨0, by simp only [hv_apply, up_apply, upO_some, upO_none, init, List.mem_cons, List.mem_range'_1, true_and, and_true, and_false, false_and, Nat.reduceLT, Nat.reduceLeDiff, Nat.reduceAdd, true_or, or_true, if_true, if_false, ↓reduceIte, Nat.reduceEqDiff, false_or, or_false, List.not_mem_nil, List.getElem?_cons_zero, List.getElem?_cons_succ, Option.getD_some] <;> rfl, by omega, hI0⟩
  rintro v w2 ⟨i, h15, hi, hIi⟩
  simp only [hv_apply, up_apply, upO_some, upO_none, init, List.mem_cons, List.mem_range'_1, true_and, and_true, and_false, false_and, Nat.reduceLT, Nat.reduceLeDiff, Nat.reduceAdd, true_or, or_true, if_true, if_false, ↓reduceIte, Nat.reduceEqDiff, false_or, or_false, List.not_mem_nil, List.getElem?_cons_zero, List.getElem?_cons_succ, Option.getD_some] at h15
  have ei : IntKind.i64.wrap ((i : Int) + 1) = ((i + 1 : Nat) : Int) := w64 (by omega) (by omega)
  simp -implicitDefEqProofs (maxSteps := 1000000) only [↓zvN, zvU, ↓zvE, zvM, init, one, Value.cells, simprocAttr, tyF, h15]
  refine ⟨fun c9 => ?_, fun c9 => ?_⟩
  · have g0 : (0 : Int) ≤ (i : Int) := by omega
    have g1 : (i : Int) < (xs.length : Int) := by omega
    obtain ⟨hb2, hA2⟩ := hI i w2 hIi
    obtain ⟨h0, h1, h2, h3, h4, h5, h6⟩ := blue_h0 hb2
    obtain ⟨x, hxi⟩ : ∃ x, xs[i]? = some x := ⟨xs[i]'(by omega), List.getElem?_eq_getElem _⟩
    have hxr := hx.2 x (List.mem_of_getElem? hxi)
    have hgx : xs.getD i 0 = x := by rw [List.getD_eq_getElem?_getD, hxi]; rfl
    obtain ⟨a, rfl⟩ := hA2.some_of (by rw [ints_len]; omega)
    have cx : w2.cell? (a.add i) = some (.int .i64 x) := by
      obtain ⟨y, hy, hc⟩ := hA2 i _ (ints_get hxi)
      cases hy
      exact hc
    have hat := binAt_lt hx (i := i) (by omega)
    have hibl : i * k.bins ≤ 4 * 64 := Nat.mul_le_mul (by omega) (by omega)
    have m1 : IntKind.i64.wrap ((i : Int) * (k.bins : Int)) = ((i * k.bins : Nat) : Int) := by rw [show (i : Int) * (k.bins : Int) = ((i * k.bins : Nat) : Int) by simp]; exact w64 (by omega) (by omega)
    have m2 : IntKind.i64.wrap (((i * k.bins : Nat) : Int) + x) = ((binAt k xs i : Nat) : Int) := by
      unfold binAt
      rw [hgx, w64 (by omega) (by omega)]
      omega
    have q0 : (0 : Int) ≤ ((binAt k xs i : Nat) : Int) := by omega
    have q1 : ((binAt k xs i : Nat) : Int) < ((k.levels * k.bins : Nat) : Int) := by omega
    have lp := hb2.lt
    simp -implicitDefEqProofs (maxSteps := 1000000) only [↓zvN, zvU, ↓zvE, zvM, init, one, Value.cells, simprocAttr, tyF, h15, g0, g1, c9, e1, cx, Int.toNat_natCast]
    refine draw_seen 14 [[], [], [1], [1, 2], [1, 2, 3], [], [], [6], [6, 7], [6, 7, 8], [5, 6, 7, 8, 9], [], [5, 6, 7, 8, 9, 10, 11], [1, 2, 3, 4, 5, 6, 7, 8, 9, 10, 11, 12], [0, 1, 2, 3, 4, 5, 6, 7, 8, 9, 10, 11, 12, 13]] (RV.look []) mixed (by kernel_rfl) (by kernel_rfl) (look_keeps _ (by simp)) ?_
    simp -implicitDefEqProofs (maxSteps := 1000000) only [↓zvN, zvU, ↓zqD, ↓zvE, zvM, init, one, Value.cells, simprocAttr, tyF, h0, h2, m1, m2, q0, q1, lp, h15, Int.toNat_natCast]
    intro w3 hm3
    try simp -implicitDefEqProofs (maxSteps := 1000000) only [↓zvN, zvU, ↓zvE, zvM, init, one, Value.cells, simprocAttr, tyF, p_nil]
    refine call_clo hc (hs i w3 (by omega) (hIm i w2 w3 hIi hm3)) ?_
    rintro _ w4 ⟨rfl, hI4⟩
    simp -implicitDefEqProofs (maxSteps := 1000000) only [↓zvN, zvU, ↓zvE, zvM, init, one, Value.cells, simprocAttr, tyF, h15, ei, p_nil]
    refine ⟨⟨?_, i + 1, rfl, by omega, hI4⟩, by simp only [numOf]; omega⟩
    repeat (first | exact Same.hv _ _ _ | refine Same.hv2 (fun s hs => mem_allK (by decide) hs) ?_ | refine Same.up (by simp) ?_)
  obtain rfl : i = k.levels := by omega
  exact hIi
structure BlueW (w : World) (p b : Nat) (k : BlueK) (bs : List BinM) : Prop where
  blk : Blk w p 236 (k.cells b (k.levels * k.bins))
  row : Blk w b 278 (bs.flatMap BinM.cells)
  ok : k.Ok
  len : bs.length = k.levels * k.bins
theorem BlueW.more {w w' : World} {p b : Nat} {k : BlueK} {bs : List BinM} (h : BlueW w p b k bs) (hm : More w w') : BlueW w' p b k bs := ⟨h.blk.more hm, h.row.more hm, h.ok, h.len⟩
theorem BlueW.mod {w w' : World} {S : Nat → Prop} {p b : Nat} {k : BlueK} {bs : List BinM} (h : BlueW w p b k bs) (hm : Mod S w w') (h1 : ¬ S p) (h2 : ¬ S b) : BlueW w' p b k bs := ⟨hm.blk h.blk h1, hm.blk h.row h2, h.ok, h.len⟩
theorem BlueW.ne {w : World} {p b : Nat} {k : BlueK} {bs : List BinM} (h : BlueW w p b k bs) : p ≠ b := by
  intro e
  have h1 := h.blk
  rw [e] at h1
  exact absurd (blk_ty h1 h.row) (by decide)
def eachM (φ : BinM → BinM) (k : BlueK) (xs : List Int) (i : Nat) (bs : List BinM) : List BinM := (List.range i).foldl (fun bs j => bs.modify (binAt k xs j) φ) bs
theorem eachM_succ (φ : BinM → BinM) (k : BlueK) (xs : List Int) (i : Nat) (bs : List BinM) : eachM φ k xs (i + 1) bs = (eachM φ k xs i bs).modify (binAt k xs i) φ := by
  unfold eachM
  rw [List.range_succ, List.foldl_append]
  rfl
theorem eachM_len (φ : BinM → BinM) (k : BlueK) (xs : List Int) (bs : List BinM) : ∀ i, (eachM φ k xs i bs).length = bs.length
  | 0 => rfl
  | i + 1 => by rw [eachM_succ, List.length_modify, eachM_len φ k xs bs i]
theorem modify_set {α : Type} {l : List α} {i : Nat} {a : α} (h : l[i]? = some a) (φ : α → α) : l.modify i φ = l.set i (φ a) := by
  apply List.ext_getElem?
  intro j
  by_cases e : i = j
  · subst e
    rw [List.getElem?_set_self (List.getElem?_eq_some_iff.1 h).1]
    simp [List.getElem?_modify, h]
  · rw [List.getElem?_set_ne e]
    simp [List.getElem?_modify, e]
theorem blue_put1 (w : World) (p b : Nat) (k : BlueK) (bs : List BinM) (h : BlueW w p b k bs) {j : Nat} {y : BinM} (hy : bs[j]? = some y) (z : Nat) (n : Int) (hz : Blk w z 2 [.int .i64 n]) :
    Ret Tryz.prog 171 #[.pointer (some ⟨b, j * 3, none⟩), .pointer (some ⟨z, 0, none⟩)] w fun u w' => u = .tuple #[] ∧ BlueW w' p b k (bs.set j { y with bytes := addM y.bytes n }) ∧ But b w w' := by
  refine ret_of Tryz.func171 rfl (by kernel_rfl) (Nat.le_of_ble_eq_true (by kernel_rfl)) ?_
  have cy : w.cell? ⟨b, j * 3, none⟩ = some (.int .i64 y.bytes) := by rw [blk_elem0 h.row (fun m _ => BinM.cells_len m) hy (by decide)]; rfl
  have cz : w.cell? ⟨z, 0, none⟩ = some (.int .i64 n) := by rw [hz.cell]; rfl
  have lb := h.row.lt
  have lz := hz.lt
  simp -implicitDefEqProofs (maxSteps := 1000000) only [↓zvN, zvU, ↓zvE, zvM, init, one, Value.cells, simprocAttr, tyF]
  refine draw_seen 8 [[], [], [1], [1, 2], [1, 2, 3], [], [1, 2, 3, 4, 5], [1, 2, 3, 4, 5, 6], [0, 1, 2, 3, 4, 5, 6, 7], [0, 1, 2, 3, 4, 5, 6, 7, 8], [0, 1, 2, 3, 4, 5, 6, 7, 8, 9]] (RV.look [(6, Pair2 y.bytes n), (7, IsInt (addM y.bytes n))]) mixed (by kernel_rfl) (by kernel_rfl) (look_keeps _ (by
    intro z hz
    simp only [List.mem_cons, List.not_mem_nil, or_false] at hz
    rcases hz with rfl | rfl
    · exact fun v a b hab ⟨q, e, hq⟩ => ⟨q, e, hq.more hab⟩
    · exact fun v a b hab h => h)) ?_
  simp -implicitDefEqProofs (maxSteps := 1000000) only [↓zvN, zvU, ↓zqD, ↓zvE, zvM, init, one, Value.cells, simprocAttr, tyF, cy, cz, lb, lz]
  refine ⟨fun w1 hm1 => ?_, ?_⟩
  · refine bslice (z := .int .i64 0) (cells := #[.int .i64 y.bytes, .int .i64 n]) Tryz.underlying77 int64E (by omega) (by have := bcells_list (z := .int .i64 0) [.int .i64 y.bytes, .int .i64 n] (by intro v hv; simp at hv; rcases hv with rfl | rfl <;> rfl); exact this) ?_
    simp -implicitDefEqProofs (maxSteps := 1000000) only [↓zvN, zvU, ↓zqD, ↓zvE, zvM, init, one, Value.cells, simprocAttr]
    exact ⟨more_alloc _ _, _, rfl, Blk.new _ _ _⟩
  rintro _ ⟨w1, hm1, q, rfl, hq⟩
  simp -implicitDefEqProofs (maxSteps := 1000000) only [↓zvN, zvU, ↓zqD, ↓zvE, zvM, init, one, Value.cells, simprocAttr, tyF, cy, cz, lb, lz]
  refine ⟨fun w2 hm2 hh => ?_, ?_⟩
  · obtain ⟨q', e, hq'⟩ := hh
    cases e
    refine call_ok Tryz.call137 (num_add w2 _ n q hq') ?_
    rintro _ w3 ⟨rfl, rfl⟩
    simp -implicitDefEqProofs (maxSteps := 1000000) only [↓zvN, zvU, ↓zqD, ↓zvE, zvM, init, one, Value.cells, simprocAttr]
    exact ⟨More.refl _, rfl⟩
  rintro _ ⟨w2, hm2, _, rfl⟩
  simp -implicitDefEqProofs (maxSteps := 1000000) only [↓zvN, zvU, ↓zqD, ↓zvE, zvM, init, one, Value.cells, simprocAttr, tyF, cy, cz, lb, lz]
  intro w3 hm3 _
  try simp -implicitDefEqProofs (maxSteps := 1000000) only [↓zvN, zvU, ↓zvE, zvM, init, one, Value.cells, simprocAttr, tyF, p_nil]
  have h3 := h.more hm3
  refine blk_setElem0 h3.row (fun m _ => BinM.cells_len m) hy (m' := { y with bytes := addM y.bytes n }) (by decide) rfl rfl fun w4 i4 k4 => ?_
  try rw [s2_undef]
  try simp -implicitDefEqProofs (maxSteps := 1000000) only [↓zvN, zvU, ↓zvE, zvM, init, one, Value.cells, simprocAttr, tyF, p_nil]
  have hne := h.ne
  exact ⟨⟨i4.blk h3.blk hne, k4, h.ok, by rw [List.length_set]; exact h.len⟩, (But.of_more hm3).trans (But.of_wr i4)⟩
theorem blue_put (w : World) (p b : Nat) (k : BlueK) (bs : List BinM) (h : BlueW w p b k bs) (A : Option Addr) (c : Nat) (xs : List Int) (hA : Cs w A (ints xs)) (hAb : ∀ a, A = some a → a.block ≠ b) (hx : BinsOk k xs) (n : Int) (hn : 0 ≤ n ∧ n ≤ 1073741824) :
    Ret Tryz.prog 85 #[.pointer (some ⟨p, 0, none⟩), .slice A xs.length c, .int .i64 n] w fun v w' => v = .bool true ∧ BlueW w' p b k (eachM (fun y => { y with bytes := addM y.bytes n }) k xs k.levels bs) ∧ But b w w' := by
  refine ret_of Tryz.func85 rfl (by kernel_rfl) (Nat.le_of_ble_eq_true (by kernel_rfl)) ?_
  have n0 : 0 ≤ n := hn.1
  have n1 : n ≤ 1073741824 := hn.2
  have hm1 := more_alloc w (.cells #[.int .i64 n] 2)
  have hb1 := Blk.new w 2 #[.int .i64 n]
  simp -implicitDefEqProofs (maxSteps := 1000000) only [↓zvN, zvU, ↓zvE, zvM, init, one, Value.cells, simprocAttr, tyF]
  obtain ⟨w1, hw1⟩ : ∃ w1, w.alloc (.cells #[.int .i64 n] 2) = w1 := ⟨_, rfl⟩
  rw [hw1] at hm1 hb1 ⊢
  clear hw1
  obtain ⟨z, hz⟩ : ∃ z, w.heap.size = z := ⟨_, rfl⟩
  have hzb : b < z := by rw [← hz]; exact h.row.lt
  rw [hz] at hb1 ⊢
  have cz : w1.cell? ⟨z, 0, none⟩ = some (.int .i64 n) := by rw [hb1.cell]; rfl
  simp -implicitDefEqProofs (maxSteps := 1000000) only [↓zvN, zvU, ↓zvE, zvM, init, one, Value.cells, simprocAttr, tyF, cz, n0, n1]
  rw [mkfunc_eq _ _ _ w1]
  simp -implicitDefEqProofs (maxSteps := 1000000) only [↓zvN, zvU, ↓zvE, zvM, init, one, Value.cells, simprocAttr, tyF]
  have hA1 := hA.more hm1
  refine call_ok Tryz.call151 (blue_each w1 p b k h.ok A c xs hx 171 #[.pointer (some ⟨z, 0, none⟩)] Tryz.call171 (fun i w' => BlueW w' p b k (eachM (fun y => { y with bytes := addM y.bytes n }) k xs i bs) ∧ Cs w' A (ints xs) ∧ Blk w' z 2 [.int .i64 n] ∧ But b w1 w')
    ⟨h.more hm1, hA1, hb1, But.refl _ _⟩ (fun i w' hi => ⟨hi.1.blk, hi.2.1⟩) (fun i w' w'' hi hm => ⟨hi.1.more hm, hi.2.1.more hm, hi.2.2.1.more hm, hi.2.2.2.trans (But.of_more hm)⟩) (fun i w' hi hI => ?_)) ?_
  · have hlt := binAt_lt hx hi
    have hel := eachM_len (fun y : BinM => { y with bytes := addM y.bytes n }) k xs bs i
    obtain ⟨y, hy⟩ : ∃ y, (eachM (fun y => { y with bytes := addM y.bytes n }) k xs i bs)[binAt k xs i]? = some y := ⟨_, List.getElem?_eq_getElem (by rw [hel, h.len]; exact hlt)⟩
    refine (blue_put1 w' p b k _ hI.1 hy z n hI.2.2.1).mono ?_
    rintro u w'' ⟨rfl, hB, hm⟩
    refine ⟨rfl, ?_, hm.cs hI.2.1 hAb, hm.blk hI.2.2.1 (by omega), hI.2.2.2.trans hm⟩
    rw [eachM_succ, modify_set hy]
    exact hB
  rintro _ w2 ⟨rfl, hB, hA2, _, hm2⟩
  simp -implicitDefEqProofs (maxSteps := 1000000) only [↓zvN, zvU, ↓zvE, zvM, init, one, Value.cells, simprocAttr, tyF]
  exact ⟨hB, (But.of_more hm1).trans hm2⟩
def subM (a b : Int) : Int := max 0 (countM a - countM b)
theorem num_sub (w : World) (a b : Int) : Ret Tryz.prog 165 #[.int .i64 a, .int .i64 b] w fun v w' => v = .int .i64 (subM a b) ∧ w' = w := by
  refine ret_of Tryz.func165 rfl (by kernel_rfl) (Nat.le_of_ble_eq_true (by kernel_rfl)) ?_
  have h1 := countM_range a
  have h2 := countM_range b
  have e : IntKind.i64.wrap (countM a - countM b) = countM a - countM b := w64 (by omega) (by omega)
  have e2 : (if 0 < countM a - countM b then countM a - countM b else 0) = subM a b := by unfold subM; split <;> omega
  simp -implicitDefEqProofs (maxSteps := 1000000) only [↓zvN, zvU, ↓zvE, zvM, init, one, Value.cells, simprocAttr, tyF]
  refine call_ok Tryz.call198 (num_count w a) ?_
  rintro _ w1 ⟨rfl, rfl⟩
  simp -implicitDefEqProofs (maxSteps := 1000000) only [↓zvN, zvU, ↓zvE, zvM, init, one, Value.cells, simprocAttr, tyF]
  refine call_ok Tryz.call198 (num_count w1 b) ?_
  rintro _ w2 ⟨rfl, rfl⟩
  simp -implicitDefEqProofs (maxSteps := 1000000) only [↓zvN, zvU, ↓zvE, zvM, init, one, Value.cells, simprocAttr, tyF, e]
  rw [e2]
theorem blue_take1 (w : World) (p b : Nat) (k : BlueK) (bs : List BinM) (h : BlueW w p b k bs) {j : Nat} {y : BinM} (hy : bs[j]? = some y) (z : Nat) (n : Int) (hz : Blk w z 2 [.int .i64 n]) :
    Ret Tryz.prog 164 #[.pointer (some ⟨b, j * 3, none⟩), .pointer (some ⟨z, 0, none⟩)] w fun u w' => u = .tuple #[] ∧ BlueW w' p b k (bs.set j { y with bytes := subM y.bytes n }) ∧ But b w w' := by
  refine ret_of Tryz.func164 rfl (by kernel_rfl) (Nat.le_of_ble_eq_true (by kernel_rfl)) ?_
  have cy : w.cell? ⟨b, j * 3, none⟩ = some (.int .i64 y.bytes) := by rw [blk_elem0 h.row (fun m _ => BinM.cells_len m) hy (by decide)]; rfl
  have cz : w.cell? ⟨z, 0, none⟩ = some (.int .i64 n) := by rw [hz.cell]; rfl
  have lb := h.row.lt
  have lz := hz.lt
  simp -implicitDefEqProofs (maxSteps := 1000000) only [↓zvN, zvU, ↓zvE, zvM, init, one, Value.cells, simprocAttr, tyF]
  refine draw_seen 7 [[], [], [1], [1, 2], [1, 2, 3], [], [1, 2, 3, 4, 5], [0, 1, 2, 3, 4, 5, 6], [0, 1, 2, 3, 4, 5, 6, 7], [0, 1, 2, 3, 4, 5, 6, 7, 8]] (RV.look [(6, IsInt (subM y.bytes n))]) mixed (by kernel_rfl) (by kernel_rfl) (look_keeps _ (by
    intro z hz
    simp only [List.mem_cons, List.not_mem_nil, or_false] at hz
    rcases hz with rfl
    exact fun v a b hab h => h)) ?_
  simp -implicitDefEqProofs (maxSteps := 1000000) only [↓zvN, zvU, ↓zqD, ↓zvE, zvM, init, one, Value.cells, simprocAttr, tyF, cy, cz, lb, lz]
  refine ⟨fun w2 hm2 => ?_, ?_⟩
  · refine call_ok Tryz.call165 (num_sub w2 _ n) ?_
    rintro _ w3 ⟨rfl, rfl⟩
    simp -implicitDefEqProofs (maxSteps := 1000000) only [↓zvN, zvU, ↓zqD, ↓zvE, zvM, init, one, Value.cells, simprocAttr]
    exact ⟨More.refl _, rfl⟩
  rintro _ ⟨w2, hm2, rfl⟩
  simp -implicitDefEqProofs (maxSteps := 1000000) only [↓zvN, zvU, ↓zqD, ↓zvE, zvM, init, one, Value.cells, simprocAttr, tyF, cy, cz, lb, lz]
  intro w3 hm3 _
  try simp -implicitDefEqProofs (maxSteps := 1000000) only [↓zvN, zvU, ↓zvE, zvM, init, one, Value.cells, simprocAttr, tyF, p_nil]
  have h3 := h.more hm3
  refine blk_setElem0 h3.row (fun m _ => BinM.cells_len m) hy (m' := { y with bytes := subM y.bytes n }) (by decide) rfl rfl fun w4 i4 k4 => ?_
  try rw [s2_undef]
  try simp -implicitDefEqProofs (maxSteps := 1000000) only [↓zvN, zvU, ↓zvE, zvM, init, one, Value.cells, simprocAttr, tyF, p_nil]
  have hne := h.ne
  exact ⟨⟨i4.blk h3.blk hne, k4, h.ok, by rw [List.length_set]; exact h.len⟩, (But.of_more hm3).trans (But.of_wr i4)⟩
theorem blue_take (w : World) (p b : Nat) (k : BlueK) (bs : List BinM) (h : BlueW w p b k bs) (A : Option Addr) (c : Nat) (xs : List Int) (hA : Cs w A (ints xs)) (hAb : ∀ a, A = some a → a.block ≠ b) (hx : BinsOk k xs) (n : Int) (hn : 0 ≤ n ∧ n ≤ 1073741824) :
    Ret Tryz.prog 81 #[.pointer (some ⟨p, 0, none⟩), .slice A xs.length c, .int .i64 n] w fun v w' => v = .bool true ∧ BlueW w' p b k (eachM (fun y => { y with bytes := subM y.bytes n }) k xs k.levels bs) ∧ But b w w' := by
  refine ret_of Tryz.func81 rfl (by kernel_rfl) (Nat.le_of_ble_eq_true (by kernel_rfl)) ?_
  have n0 : 0 ≤ n := hn.1
  have n1 : n ≤ 1073741824 := hn.2
  have hm1 := more_alloc w (.cells #[.int .i64 n] 2)
  have hb1 := Blk.new w 2 #[.int .i64 n]
  simp -implicitDefEqProofs (maxSteps := 1000000) only [↓zvN, zvU, ↓zvE, zvM, init, one, Value.cells, simprocAttr, tyF]
  obtain ⟨w1, hw1⟩ : ∃ w1, w.alloc (.cells #[.int .i64 n] 2) = w1 := ⟨_, rfl⟩
  rw [hw1] at hm1 hb1 ⊢
  clear hw1
  obtain ⟨z, hz⟩ : ∃ z, w.heap.size = z := ⟨_, rfl⟩
  have hzb : b < z := by rw [← hz]; exact h.row.lt
  rw [hz] at hb1 ⊢
  have cz : w1.cell? ⟨z, 0, none⟩ = some (.int .i64 n) := by rw [hb1.cell]; rfl
  simp -implicitDefEqProofs (maxSteps := 1000000) only [↓zvN, zvU, ↓zvE, zvM, init, one, Value.cells, simprocAttr, tyF, cz, n0, n1]
  rw [mkfunc_eq _ _ _ w1]
  simp -implicitDefEqProofs (maxSteps := 1000000) only [↓zvN, zvU, ↓zvE, zvM, init, one, Value.cells, simprocAttr, tyF]
  have hA1 := hA.more hm1
  refine call_ok Tryz.call151 (blue_each w1 p b k h.ok A c xs hx 164 #[.pointer (some ⟨z, 0, none⟩)] Tryz.call164 (fun i w' => BlueW w' p b k (eachM (fun y => { y with bytes := subM y.bytes n }) k xs i bs) ∧ Cs w' A (ints xs) ∧ Blk w' z 2 [.int .i64 n] ∧ But b w1 w')
    ⟨h.more hm1, hA1, hb1, But.refl _ _⟩ (fun i w' hi => ⟨hi.1.blk, hi.2.1⟩) (fun i w' w'' hi hm => ⟨hi.1.more hm, hi.2.1.more hm, hi.2.2.1.more hm, hi.2.2.2.trans (But.of_more hm)⟩) (fun i w' hi hI => ?_)) ?_
  · have hlt := binAt_lt hx hi
    have hel := eachM_len (fun y : BinM => { y with bytes := subM y.bytes n }) k xs bs i
    obtain ⟨y, hy⟩ : ∃ y, (eachM (fun y => { y with bytes := subM y.bytes n }) k xs i bs)[binAt k xs i]? = some y := ⟨_, List.getElem?_eq_getElem (by rw [hel, h.len]; exact hlt)⟩
    refine (blue_take1 w' p b k _ hI.1 hy z n hI.2.2.1).mono ?_
    rintro u w'' ⟨rfl, hB, hm⟩
    refine ⟨rfl, ?_, hm.cs hI.2.1 hAb, hm.blk hI.2.2.1 (by omega), hI.2.2.2.trans hm⟩
    rw [eachM_succ, modify_set hy]
    exact hB
  rintro _ w2 ⟨rfl, hB, hA2, _, hm2⟩
  simp -implicitDefEqProofs (maxSteps := 1000000) only [↓zvN, zvU, ↓zvE, zvM, init, one, Value.cells, simprocAttr, tyF]
  exact ⟨hB, (But.of_more hm1).trans hm2⟩
def markM (k : BlueK) (xs : List Int) (bs : List BinM) (i : Nat) : Int := (List.range i).foldl (fun m j => min m ((bs.getD (binAt k xs j) ⟨0, 0, 0⟩).p)) 65536
theorem markM_succ (k : BlueK) (xs : List Int) (bs : List BinM) (i : Nat) : markM k xs bs (i + 1) = min (markM k xs bs i) ((bs.getD (binAt k xs i) ⟨0, 0, 0⟩).p) := by
  unfold markM
  rw [List.range_succ, List.foldl_append]
  rfl
theorem blue_mark1 (w : World) (p b : Nat) (k : BlueK) (bs : List BinM) (h : BlueW w p b k bs) {j : Nat} {y : BinM} (hy : bs[j]? = some y) (z : Nat) (n : Int) (hz : Blk w z 3 [.int .i64 n]) :
    Ret Tryz.prog 206 #[.pointer (some ⟨b, j * 3, none⟩), .pointer (some ⟨z, 0, none⟩)] w fun u w' => u = .tuple #[] ∧ Blk w' z 3 [.int .i64 (min n y.p)] ∧ But z w w' := by
  refine ret_of Tryz.func206 rfl (by kernel_rfl) (Nat.le_of_ble_eq_true (by kernel_rfl)) ?_
  have cy : w.cell? ⟨b, j * 3 + 2, none⟩ = some (.int .i64 y.p) := by rw [blk_elemAt h.row (fun m _ => BinM.cells_len m) hy (by decide)]; rfl
  have cz : w.cell? ⟨z, 0, none⟩ = some (.int .i64 n) := by rw [hz.cell]; rfl
  have lb := h.row.lt
  have lz := hz.lt
  have e2 : (if y.p < n then y.p else n) = min n y.p := by split <;> omega
  simp -implicitDefEqProofs (maxSteps := 1000000) only [↓zvN, zvU, ↓zvE, zvM, init, one, Value.cells, simprocAttr, tyF]
  refine draw_seen 5 [[], [], [1], [1, 2], [1, 2, 3], [0, 1, 2, 3, 4], [0, 1, 2, 3, 4, 5]] (RV.look []) mixed (by kernel_rfl) (by kernel_rfl) (look_keeps _ (by simp)) ?_
  simp -implicitDefEqProofs (maxSteps := 1000000) only [↓zvN, zvU, ↓zqD, ↓zvE, zvM, init, one, Value.cells, simprocAttr, tyF, cy, cz, lb, lz]
  intro w3 hm3
  try simp -implicitDefEqProofs (maxSteps := 1000000) only [↓zvN, zvU, ↓zvE, zvM, init, one, Value.cells, simprocAttr, tyF, p_nil]
  rw [e2]
  refine st_cell (i := 0) (v := .int .i64 (min n y.p)) (hz.more hm3) (by simp) rfl fun w4 i4 k4 => ?_
  try rw [s2_undef]
  try simp -implicitDefEqProofs (maxSteps := 1000000) only [↓zvN, zvU, ↓zvE, zvM, init, one, Value.cells, simprocAttr, tyF, p_nil]
  exact ⟨k4, (But.of_more hm3).trans (But.of_wr i4)⟩
theorem blue_mark (w : World) (p b : Nat) (k : BlueK) (bs : List BinM) (h : BlueW w p b k bs) (A : Option Addr) (c : Nat) (xs : List Int) (hA : Cs w A (ints xs)) (hx : BinsOk k xs) :
    Ret Tryz.prog 145 #[.pointer (some ⟨p, 0, none⟩), .slice A xs.length c] w fun v w' => v = .int .i64 (markM k xs bs k.levels) ∧ More w w' := by
  refine ret_of Tryz.func145 rfl (by kernel_rfl) (Nat.le_of_ble_eq_true (by kernel_rfl)) ?_
  have zi : zer Tryz.prog 3 = some (.int .i64 0) := by rw [zer3]
  simp -implicitDefEqProofs (maxSteps := 1000000) only [↓zvN, zvU, ↓zvE, zvM, init, one, Value.cells, simprocAttr, tyF, zi]
  have hm1 := more_alloc w (.cells #[.int .i64 0] 3)
  have hb1 := Blk.new w 3 #[.int .i64 0]
  obtain ⟨w1, hw1⟩ : ∃ w1, w.alloc (.cells #[.int .i64 0] 3) = w1 := ⟨_, rfl⟩
  rw [hw1] at hm1 hb1 ⊢
  clear hw1
  obtain ⟨z, hz⟩ : ∃ z, w.heap.size = z := ⟨_, rfl⟩
  have hzb : b < z ∧ p < z := by rw [← hz]; exact ⟨h.row.lt, h.blk.lt⟩
  have hzA : ∀ a, A = some a → (0 : Nat) < (ints xs).length → a.block ≠ z := by
    intro a ha h0 e
    have := cs_lt (by rw [ha] at hA; exact hA) h0
    omega
  rw [hz] at hb1 ⊢
  refine st_cell (i := 0) (v := .int .i64 65536) hb1 (by simp) rfl fun w2 i2 k2 => ?_
  rw [s2_undef]
  have hxp : 0 < (ints xs).length := by rw [ints_len, hx.1]; have := h.ok.l; omega
  simp -implicitDefEqProofs (maxSteps := 1000000) only [↓zvN, zvU, ↓zvE, zvM, init, one, Value.cells, simprocAttr, tyF]
  rw [mkfunc_eq _ _ _ w2]
  simp -implicitDefEqProofs (maxSteps := 1000000) only [↓zvN, zvU, ↓zvE, zvM, init, one, Value.cells, simprocAttr, tyF]
  have hw2 : More w w2 := i2.below hm1 (by omega)
  refine call_ok Tryz.call151 (blue_each w2 p b k h.ok A c xs hx 206 #[.pointer (some ⟨z, 0, none⟩)] Tryz.call206 (fun i w' => BlueW w' p b k bs ∧ Cs w' A (ints xs) ∧ Blk w' z 3 [.int .i64 (markM k xs bs i)] ∧ More w w')
    ⟨h.more hw2, hA.more hw2, k2, hw2⟩ (fun i w' hi => ⟨hi.1.blk, hi.2.1⟩) (fun i w' w'' hi hm => ⟨hi.1.more hm, hi.2.1.more hm, hi.2.2.1.more hm, hi.2.2.2.trans hm⟩) (fun i w' hi hI => ?_)) ?_
  · have hlt := binAt_lt hx hi
    obtain ⟨y, hy⟩ : ∃ y, bs[binAt k xs i]? = some y := ⟨_, List.getElem?_eq_getElem (by rw [h.len]; exact hlt)⟩
    refine (blue_mark1 w' p b k bs hI.1 hy z _ hI.2.2.1).mono ?_
    rintro u w'' ⟨rfl, hB, hm⟩
    refine ⟨rfl, hI.1.mod hm (fun e => by have : p = z := e; omega) (fun e => by have : b = z := e; omega), hm.cs hI.2.1 (fun a ha => hzA a ha hxp), ?_, Mod.more hI.2.2.2 hm (fun j hj e => by have : j = z := e; omega)⟩
    rw [markM_succ, List.getD_eq_getElem?_getD, hy]
    exact hB
  rintro _ w3 ⟨rfl, hB, hA2, hz3, hm3⟩
  have cz : w3.cell? ⟨z, 0, none⟩ = some (.int .i64 (markM k xs bs k.levels)) := by rw [hz3.cell]; rfl
  simp -implicitDefEqProofs (maxSteps := 1000000) only [↓zvN, zvU, ↓zvE, zvM, init, one, Value.cells, simprocAttr, tyF, cz]
  exact hm3
def BinM.Ok (y : BinM) : Prop := (0 ≤ y.changed ∧ y.changed ≤ 4611686018427387903) ∧ 0 ≤ y.p ∧ y.p ≤ 65536
def timeM (now : Int) : Int := max 0 (min now 4611686018427387903)
def touchM (k : BlueK) (now : Int) (y : BinM) : BinM :=
  if timeM now - y.changed < k.hold then y
  else if k.target < y.bytes then ⟨y.bytes, timeM now, min (y.p + k.up) 65536⟩
  else if y.bytes = 0 then ⟨y.bytes, timeM now, max (y.p - k.down) 0⟩
  else y
theorem blue_touch1 (w : World) (p b : Nat) (k : BlueK) (bs : List BinM) (h : BlueW w p b k bs) {j : Nat} {y : BinM} (hy : bs[j]? = some y) (hyo : y.Ok) (z u : Nat) (now : Int) (hz : Blk w z 2 [.int .i64 now]) (hu : Blk w u 128 [.pointer (some ⟨p, 0, none⟩)]) :
    Ret Tryz.prog 152 #[.pointer (some ⟨b, j * 3, none⟩), .pointer (some ⟨z, 0, none⟩), .pointer (some ⟨u, 0, none⟩)] w fun v w' => v = .tuple #[] ∧ BlueW w' p b k (bs.set j (touchM k now y)) ∧ But b w w' := by
  refine ret_of Tryz.func152 rfl (by kernel_rfl) (Nat.le_of_ble_eq_true (by kernel_rfl)) ?_
  have hset : bs.set j y = bs := by
    apply List.ext_getElem?
    intro i
    by_cases e : j = i
    · subst e; rw [List.getElem?_set_self (List.getElem?_eq_some_iff.1 hy).1, hy]
    · rw [List.getElem?_set_ne e]
  have cy0 : ∀ {w' : World}, BlueW w' p b k bs → w'.cell? ⟨b, j * 3, none⟩ = some (.int .i64 y.bytes) := fun h => by rw [blk_elem0 h.row (fun m _ => BinM.cells_len m) hy (by decide)]; rfl
  have cy1 : ∀ {w' : World}, BlueW w' p b k bs → w'.cell? ⟨b, j * 3 + 1, none⟩ = some (.int .i64 y.changed) := fun h => by rw [blk_elemAt h.row (fun m _ => BinM.cells_len m) hy (by decide)]; rfl
  have cy2 : ∀ {w' : World}, BlueW w' p b k bs → w'.cell? ⟨b, j * 3 + 2, none⟩ = some (.int .i64 y.p) := fun h => by rw [blk_elemAt h.row (fun m _ => BinM.cells_len m) hy (by decide)]; rfl
  have cz : w.cell? ⟨z, 0, none⟩ = some (.int .i64 now) := by rw [hz.cell]; rfl
  have cu : ∀ {w' : World}, Blk w' u 128 [.pointer (some ⟨p, 0, none⟩)] → w'.cell? ⟨u, 0, none⟩ = some (.pointer (some ⟨p, 0, none⟩)) := fun h => by rw [h.cell]; rfl
  obtain ⟨t, ht⟩ : ∃ t, timeM now = t := ⟨_, rfl⟩
  have htr : 0 ≤ t ∧ t ≤ 4611686018427387903 := by rw [← ht]; unfold timeM; omega
  have et : (if (0 : Int) < (if (4611686018427387903 : Int) < now then (4611686018427387903 : Int) else now) then (if (4611686018427387903 : Int) < now then (4611686018427387903 : Int) else now) else 0) = t := by
    rw [← ht]
    unfold timeM
    split <;> split at * <;> omega
  have hko := h.ok
  have hkt := hko.t
  have hku := hko.u
  have hkd := hko.d
  have hkh := hko.h
  obtain ⟨⟨y0, y1⟩, y2, y3⟩ := hyo
  have e1 : IntKind.i64.wrap (t - y.changed) = t - y.changed := w64 (by omega) (by omega)
  have e2 : IntKind.i64.wrap (y.p + k.up) = y.p + k.up := w64 (by omega) (by omega)
  have e3 : IntKind.i64.wrap (y.p - k.down) = y.p - k.down := w64 (by omega) (by omega)
  have lb := h.row.lt
  have lu := hu.lt
  have lp := h.blk.lt
  have hne := h.ne
  have hub : u ≠ b := by rintro rfl; exact absurd (blk_ty hu h.row) (by decide)
  obtain ⟨h0, h1, h2, h3, h4, h5, h6⟩ := blue_h0 h.blk
  simp -implicitDefEqProofs (maxSteps := 1000000) only [↓zvN, zvU, ↓zvE, zvM, init, one, Value.cells, simprocAttr, tyF, cz]
  rw [et]
  unfold touchM
  rw [ht]
  by_cases c1 : t - y.changed < k.hold
  · rw [if_pos c1, hset]
    refine draw_seen 10 [[], [], [1], [1, 2], [1, 2, 3], [0, 1, 2, 3, 4], [], [6], [6, 7], [6, 7, 8], [0, 1, 2, 3, 4, 5, 6, 7, 8, 9], [0, 1, 2, 3, 4, 5, 6, 7, 8, 9, 10]] (RV.look []) mixed (by kernel_rfl) (by kernel_rfl) (look_keeps _ (by simp)) ?_
    simp -implicitDefEqProofs (maxSteps := 1000000) only [↓zvN, zvU, ↓zqD, ↓zvE, zvM, init, one, Value.cells, simprocAttr, tyF, cy1 h, cu hu, h4, e1, lb, lu, lp, c1]
    intro w1 hm1
    try simp -implicitDefEqProofs (maxSteps := 1000000) only [↓zvN, zvU, ↓zvE, zvM, init, one, Value.cells, simprocAttr, tyF, p_nil]
    exact ⟨h.more hm1, But.of_more hm1⟩
  rw [if_neg c1]
  refine draw_seen 10 [[], [], [1], [1, 2], [1, 2, 3], [0, 1, 2, 3, 4], [], [6], [6, 7], [6, 7, 8], [0, 1, 2, 3, 4, 5, 6, 7, 8, 9], [0, 1, 2, 3, 4, 5, 6, 7, 8, 9, 10]] (RV.look []) mixed (by kernel_rfl) (by kernel_rfl) (look_keeps _ (by simp)) ?_
  simp -implicitDefEqProofs (maxSteps := 1000000) only [↓zvN, zvU, ↓zqD, ↓zvE, zvM, init, one, Value.cells, simprocAttr, tyF, cy1 h, cu hu, h4, e1, lb, lu, lp, c1]
  intro w1 hm1
  try simp -implicitDefEqProofs (maxSteps := 1000000) only [↓zvN, zvU, ↓zvE, zvM, init, one, Value.cells, simprocAttr, tyF, p_nil]
  have hw1 := h.more hm1
  have hu1 := hu.more hm1
  obtain ⟨g0, g1, g2, g3, g4, g5, g6⟩ := blue_h0 hw1.blk
  have lb1 := hw1.row.lt
  have lu1 := hu1.lt
  have lp1 := hw1.blk.lt
  by_cases c2 : k.target < y.bytes
  · rw [if_pos c2]
    refine draw_seen 8 [[], [0], [0, 1], [0, 1, 2], [], [4], [4, 5], [4, 5, 6], [0, 1, 2, 3, 4, 5, 6, 7], [0, 1, 2, 3, 4, 5, 6, 7, 8]] (RV.look []) mixed (by kernel_rfl) (by kernel_rfl) (look_keeps _ (by simp)) ?_
    simp -implicitDefEqProofs (maxSteps := 1000000) only [↓zvN, zvU, ↓zqD, ↓zvE, zvM, init, one, Value.cells, simprocAttr, tyF, cy0 hw1, cu hu1, g3, lb1, lu1, lp1, c2]
    intro w2 hm2
    try simp -implicitDefEqProofs (maxSteps := 1000000) only [↓zvN, zvU, ↓zvE, zvM, init, one, Value.cells, simprocAttr, tyF, p_nil]
    have hw2 := hw1.more hm2
    have hu2 := hu1.more hm2
    obtain ⟨k0, k1, k2, k3, k4, k5, k6⟩ := blue_h0 hw2.blk
    have lb2 := hw2.row.lt
    have lu2 := hu2.lt
    have lp2 := hw2.blk.lt
    have em : (if (65536 : Int) < y.p + k.up then (65536 : Int) else y.p + k.up) = min (y.p + k.up) 65536 := by split <;> omega
    refine draw_seen 11 [[], [], [1], [1, 2], [1, 2, 3], [], [5], [5, 6], [5, 6, 7], [1, 2, 3, 4, 5, 6, 7, 8], [1, 2, 3, 4, 5, 6, 7, 8, 9], [0, 1, 2, 3, 4, 5, 6, 7, 8, 9, 10], [0, 1, 2, 3, 4, 5, 6, 7, 8, 9, 10, 11], [0, 1, 2, 3, 4, 5, 6, 7, 8, 9, 10, 11, 12]] (RV.look []) mixed (by kernel_rfl) (by kernel_rfl) (look_keeps _ (by simp)) ?_
    simp -implicitDefEqProofs (maxSteps := 1000000) only [↓zvN, zvU, ↓zqD, ↓zvE, zvM, init, one, Value.cells, simprocAttr, tyF, cy2 hw2, cu hu2, k5, e2, em, lb2, lu2, lp2]
    intro w3 hm3
    try simp -implicitDefEqProofs (maxSteps := 1000000) only [↓zvN, zvU, ↓zvE, zvM, init, one, Value.cells, simprocAttr, tyF, p_nil]
    have hw3 := hw2.more hm3
    try rw [em]
    refine blk_setElem hw3.row (fun m _ => BinM.cells_len m) hy (j := 2) (m' := ⟨y.bytes, y.changed, min (y.p + k.up) 65536⟩) (by decide) rfl rfl fun w4 i4 r4 => ?_
    try rw [s2_undef]
    try simp -implicitDefEqProofs (maxSteps := 1000000) only [↓zvN, zvU, ↓zvE, zvM, init, one, Value.cells, simprocAttr, tyF, p_nil]
    have hy4 : (bs.set j ⟨y.bytes, y.changed, min (y.p + k.up) 65536⟩)[j]? = some (⟨y.bytes, y.changed, min (y.p + k.up) 65536⟩ : BinM) := List.getElem?_set_self (List.getElem?_eq_some_iff.1 hy).1
    refine blk_setElem r4 (fun m _ => BinM.cells_len m) hy4 (j := 1) (m' := ⟨y.bytes, t, min (y.p + k.up) 65536⟩) (by decide) rfl rfl fun w5 i5 r5 => ?_
    try rw [s2_undef]
    try simp -implicitDefEqProofs (maxSteps := 1000000) only [↓zvN, zvU, ↓zvE, zvM, init, one, Value.cells, simprocAttr, tyF, p_nil]
    rw [List.set_set] at r5
    exact ⟨⟨i5.blk (i4.blk hw3.blk hne) hne, r5, hko, by rw [List.length_set]; exact h.len⟩, ((But.of_more ((hm1.trans hm2).trans hm3)).trans (But.of_wr i4)).trans (But.of_wr i5)⟩
  rw [if_neg c2]
  refine draw_seen 8 [[], [0], [0, 1], [0, 1, 2], [], [4], [4, 5], [4, 5, 6], [0, 1, 2, 3, 4, 5, 6, 7], [0, 1, 2, 3, 4, 5, 6, 7, 8]] (RV.look []) mixed (by kernel_rfl) (by kernel_rfl) (look_keeps _ (by simp)) ?_
  simp -implicitDefEqProofs (maxSteps := 1000000) only [↓zvN, zvU, ↓zqD, ↓zvE, zvM, init, one, Value.cells, simprocAttr, tyF, cy0 hw1, cu hu1, g3, lb1, lu1, lp1, c2]
  intro w2 hm2
  try simp -implicitDefEqProofs (maxSteps := 1000000) only [↓zvN, zvU, ↓zvE, zvM, init, one, Value.cells, simprocAttr, tyF, p_nil]
  have hw2 := hw1.more hm2
  have hu2 := hu1.more hm2
  obtain ⟨k0, k1, k2, k3, k4, k5, k6⟩ := blue_h0 hw2.blk
  have lb2 := hw2.row.lt
  have lu2 := hu2.lt
  have lp2 := hw2.blk.lt
  by_cases c3 : y.bytes = 0
  · rw [if_pos c3]
    have cy0' := cy0 hw2
    rw [c3] at cy0'
    have em : (if y.p - k.down < 0 then (0 : Int) else y.p - k.down) = max (y.p - k.down) 0 := by split <;> omega
    have em2 : (if (0 : Int) < y.p - k.down then y.p - k.down else 0) = max (y.p - k.down) 0 := by split <;> omega
    simp -implicitDefEqProofs (maxSteps := 1000000) only [↓zvN, zvU, ↓zvE, zvM, init, one, Value.cells, simprocAttr, tyF, cy0']
    refine draw_seen 11 [[], [], [1], [1, 2], [1, 2, 3], [], [5], [5, 6], [5, 6, 7], [1, 2, 3, 4, 5, 6, 7, 8], [1, 2, 3, 4, 5, 6, 7, 8, 9], [0, 1, 2, 3, 4, 5, 6, 7, 8, 9, 10], [0, 1, 2, 3, 4, 5, 6, 7, 8, 9, 10, 11], [0, 1, 2, 3, 4, 5, 6, 7, 8, 9, 10, 11, 12]] (RV.look []) mixed (by kernel_rfl) (by kernel_rfl) (look_keeps _ (by simp)) ?_
    simp -implicitDefEqProofs (maxSteps := 1000000) only [↓zvN, zvU, ↓zqD, ↓zvE, zvM, init, one, Value.cells, simprocAttr, tyF, cy2 hw2, cu hu2, k6, e3, em, em2, lb2, lu2, lp2]
    intro w3 hm3
    try simp -implicitDefEqProofs (maxSteps := 1000000) only [↓zvN, zvU, ↓zvE, zvM, init, one, Value.cells, simprocAttr, tyF, p_nil]
    have hw3 := hw2.more hm3
    try rw [em]
    try rw [em2]
    refine blk_setElem hw3.row (fun m _ => BinM.cells_len m) hy (j := 2) (m' := ⟨y.bytes, y.changed, max (y.p - k.down) 0⟩) (by decide) rfl rfl fun w4 i4 r4 => ?_
    try rw [s2_undef]
    try simp -implicitDefEqProofs (maxSteps := 1000000) only [↓zvN, zvU, ↓zvE, zvM, init, one, Value.cells, simprocAttr, tyF, p_nil]
    have hy4 : (bs.set j ⟨y.bytes, y.changed, max (y.p - k.down) 0⟩)[j]? = some (⟨y.bytes, y.changed, max (y.p - k.down) 0⟩ : BinM) := List.getElem?_set_self (List.getElem?_eq_some_iff.1 hy).1
    refine blk_setElem r4 (fun m _ => BinM.cells_len m) hy4 (j := 1) (m' := ⟨y.bytes, t, max (y.p - k.down) 0⟩) (by decide) rfl rfl fun w5 i5 r5 => ?_
    try rw [s2_undef]
    try simp -implicitDefEqProofs (maxSteps := 1000000) only [↓zvN, zvU, ↓zvE, zvM, init, one, Value.cells, simprocAttr, tyF, p_nil]
    rw [List.set_set] at r5
    exact ⟨⟨i5.blk (i4.blk hw3.blk hne) hne, r5, hko, by rw [List.length_set]; exact h.len⟩, ((But.of_more ((hm1.trans hm2).trans hm3)).trans (But.of_wr i4)).trans (But.of_wr i5)⟩
  · rw [if_neg c3, hset]
    simp -implicitDefEqProofs (maxSteps := 1000000) only [↓zvN, zvU, ↓zvE, zvM, init, one, Value.cells, simprocAttr, tyF, cy0 hw2, c3]
    exact ⟨hw2, But.of_more (hm1.trans hm2)⟩
theorem touch_ok {k : BlueK} (hk : k.Ok) {y : BinM} (hy : y.Ok) (now : Int) : (touchM k now y).Ok := by
  have ht : 0 ≤ timeM now ∧ timeM now ≤ 4611686018427387903 := by unfold timeM; omega
  obtain ⟨⟨y0, y1⟩, y2, y3⟩ := hy
  have hu := hk.u
  have hd := hk.d
  unfold touchM BinM.Ok
  split
  · exact ⟨⟨y0, y1⟩, y2, y3⟩
  split
  · exact ⟨ht, by show 0 ≤ min (y.p + k.up) 65536; omega, by show min (y.p + k.up) 65536 ≤ 65536; omega⟩
  split
  · exact ⟨ht, by show 0 ≤ max (y.p - k.down) 0; omega, by show max (y.p - k.down) 0 ≤ 65536; omega⟩
  · exact ⟨⟨y0, y1⟩, y2, y3⟩
theorem eachM_mem {φ : BinM → BinM} {k : BlueK} {xs : List Int} {bs : List BinM} (hφ : ∀ y, y.Ok → (φ y).Ok) (hb : ∀ y ∈ bs, y.Ok) : ∀ i, ∀ y ∈ eachM φ k xs i bs, y.Ok
  | 0 => hb
  | i + 1 => by
    have ih := eachM_mem (k := k) (xs := xs) hφ hb i
    intro y hy
    rw [eachM_succ] at hy
    by_cases hlt : binAt k xs i < (eachM φ k xs i bs).length
    · rw [modify_set (List.getElem?_eq_getElem hlt)] at hy
      rcases List.mem_or_eq_of_mem_set hy with h1 | h1
      · exact ih y h1
      · rw [h1]; exact hφ _ (ih _ (List.getElem_mem hlt))
    · rw [List.modify_eq_self (by omega)] at hy
      exact ih y hy
theorem blue_touch (w : World) (p b : Nat) (k : BlueK) (bs : List BinM) (h : BlueW w p b k bs) (hbo : ∀ y ∈ bs, y.Ok) (A : Option Addr) (c : Nat) (xs : List Int) (hA : Cs w A (ints xs)) (hAb : ∀ a, A = some a → a.block ≠ b) (hx : BinsOk k xs) (now : Int) :
    Ret Tryz.prog 63 #[.pointer (some ⟨p, 0, none⟩), .slice A xs.length c, .int .i64 now] w fun v w' => v = .bool true ∧ BlueW w' p b k (eachM (touchM k now) k xs k.levels bs) ∧ But b w w' := by
  refine ret_of Tryz.func63 rfl (by kernel_rfl) (Nat.le_of_ble_eq_true (by kernel_rfl)) ?_
  have hm0 := more_alloc w (.cells #[.pointer (some ⟨p, 0, none⟩)] 128)
  have hb0 := Blk.new w 128 #[.pointer (some ⟨p, 0, none⟩)]
  simp -implicitDefEqProofs (maxSteps := 1000000) only [↓zvN, zvU, ↓zvE, zvM, init, one, Value.cells, simprocAttr, tyF]
  obtain ⟨w0, hw0⟩ : ∃ w0, w.alloc (.cells #[.pointer (some ⟨p, 0, none⟩)] 128) = w0 := ⟨_, rfl⟩
  have hw0' := hw0
  rw [hw0] at hm0 hb0 ⊢
  clear hw0
  have hm1 := more_alloc w0 (.cells #[.int .i64 now] 2)
  have hb1 := Blk.new w0 2 #[.int .i64 now]
  obtain ⟨w1, hw1⟩ : ∃ w1, w0.alloc (.cells #[.int .i64 now] 2) = w1 := ⟨_, rfl⟩
  rw [hw1] at hm1 hb1 ⊢
  clear hw1
  obtain ⟨u, hu⟩ : ∃ u, w.heap.size = u := ⟨_, rfl⟩
  have hub : b < u := by rw [← hu]; exact h.row.lt
  rw [hu] at hb0 ⊢
  obtain ⟨z, hz⟩ : ∃ z, w0.heap.size = z := ⟨_, rfl⟩
  have hzb : b < z := by rw [← hz]; exact (h.more hm0).row.lt
  rw [hz] at hb1
  have hz0 := hz
  rw [← hw0'] at hz
  clear hw0'
  have hb01 := hb0.more hm1
  have cu : w1.cell? ⟨u, 0, none⟩ = some (.pointer (some ⟨p, 0, none⟩)) := by rw [hb01.cell]; rfl
  simp -implicitDefEqProofs (maxSteps := 1000000) only [↓zvN, zvU, ↓zvE, zvM, init, one, Value.cells, simprocAttr, tyF, cu, hz, hz0]
  rw [mkfunc_eq _ _ _ w1]
  simp -implicitDefEqProofs (maxSteps := 1000000) only [↓zvN, zvU, ↓zvE, zvM, init, one, Value.cells, simprocAttr, tyF, hz, hz0]
  have h01 := hm0.trans hm1
  have hA1 := hA.more h01
  refine call_ok Tryz.call151 (blue_each w1 p b k h.ok A c xs hx 152 #[.pointer (some ⟨z, 0, none⟩), .pointer (some ⟨u, 0, none⟩)] Tryz.call152 (fun i w' => BlueW w' p b k (eachM (touchM k now) k xs i bs) ∧ Cs w' A (ints xs) ∧ (Blk w' z 2 [.int .i64 now] ∧ Blk w' u 128 [.pointer (some ⟨p, 0, none⟩)]) ∧ But b w1 w')
    ⟨h.more h01, hA1, ⟨hb1, hb01⟩, But.refl _ _⟩ (fun i w' hi => ⟨hi.1.blk, hi.2.1⟩) (fun i w' w'' hi hm => ⟨hi.1.more hm, hi.2.1.more hm, ⟨hi.2.2.1.1.more hm, hi.2.2.1.2.more hm⟩, hi.2.2.2.trans (But.of_more hm)⟩) (fun i w' hi hI => ?_)) ?_
  · have hlt := binAt_lt hx hi
    have hel := eachM_len (touchM k now) k xs bs i
    obtain ⟨y, hy⟩ : ∃ y, (eachM (touchM k now) k xs i bs)[binAt k xs i]? = some y := ⟨_, List.getElem?_eq_getElem (by rw [hel, h.len]; exact hlt)⟩
    refine (blue_touch1 w' p b k _ hI.1 hy (eachM_mem (fun y hy => touch_ok h.ok hy now) hbo i y (List.mem_of_getElem? hy)) z u now hI.2.2.1.1 hI.2.2.1.2).mono ?_
    rintro v w'' ⟨rfl, hB, hm⟩
    refine ⟨rfl, ?_, hm.cs hI.2.1 hAb, ⟨hm.blk hI.2.2.1.1 (by omega), hm.blk hI.2.2.1.2 (by omega)⟩, hI.2.2.2.trans hm⟩
    rw [eachM_succ, modify_set hy]
    exact hB
  rintro _ w2 ⟨rfl, hB, hA2, _, hm2⟩
  simp -implicitDefEqProofs (maxSteps := 1000000) only [↓zvN, zvU, ↓zvE, zvM, init, one, Value.cells, simprocAttr, tyF]
  exact ⟨hB, (But.of_more h01).trans hm2⟩
def mulM (a b : Int) : Int := min (countM a * countM b) 4611686018427387904
theorem num_mul (w : World) (a b : Int) : Ret Tryz.prog 159 #[.int .i64 a, .int .i64 b] w fun v w' => v = .int .i64 (mulM a b) ∧ w' = w := by
  refine ret_of Tryz.func159 rfl (by kernel_rfl) (Nat.le_of_ble_eq_true (by kernel_rfl)) ?_
  simp -implicitDefEqProofs (maxSteps := 1000000) only [↓zvN, zvU, ↓zvE, zvM, init, one, Value.cells, simprocAttr, tyF]
  refine call_ok Tryz.call198 (num_count w a) ?_
  rintro _ w1 ⟨rfl, rfl⟩
  simp -implicitDefEqProofs (maxSteps := 1000000) only [↓zvN, zvU, ↓zvE, zvM, init, one, Value.cells, simprocAttr, tyF]
  refine call_ok Tryz.call198 (num_count w1 b) ?_
  rintro _ w2 ⟨rfl, rfl⟩
  have ha := countM_range a
  have hb := countM_range b
  unfold mulM
  obtain ⟨x, hx⟩ : ∃ x, countM a = x := ⟨_, rfl⟩
  obtain ⟨y, hy⟩ : ∃ y, countM b = y := ⟨_, rfl⟩
  rw [hx] at ha ⊢
  rw [hy] at hb ⊢
  by_cases h1 : x = 0
  · subst h1
    simp -implicitDefEqProofs (maxSteps := 1000000) only [↓zvN, zvU, ↓zvE, zvM, init, one, Value.cells, simprocAttr, tyF]
    simp
    try omega
  by_cases h2 : y = 0
  · subst h2
    simp -implicitDefEqProofs (maxSteps := 1000000) only [↓zvN, zvU, ↓zvE, zvM, init, one, Value.cells, simprocAttr, tyF, h1]
    simp
    try omega
  have eq : Int.tdiv 4611686018427387904 y = 4611686018427387904 / y := Int.tdiv_eq_ediv_of_nonneg (by omega)
  have hq0 : 0 ≤ 4611686018427387904 / y := Int.ediv_nonneg (by omega) (by omega)
  have hq1 : 4611686018427387904 / y ≤ 4611686018427387904 := Int.ediv_le_self _ (by omega)
  have ew : IntKind.i64.wrap (4611686018427387904 / y) = 4611686018427387904 / y := w64 (by omega) (by omega)
  have hdm := Int.mul_ediv_add_emod 4611686018427387904 y
  have hm0 := Int.emod_nonneg 4611686018427387904 h2
  have hm1 := Int.emod_lt_of_pos 4611686018427387904 (show 0 < y by omega)
  by_cases h3 : 4611686018427387904 / y < x
  · have hb2 : y * (4611686018427387904 / y + 1) ≤ y * x := Int.mul_le_mul_of_nonneg_left (by omega) (by omega)
    rw [Int.mul_add, Int.mul_one] at hb2
    have hc : x * y = y * x := Int.mul_comm x y
    simp -implicitDefEqProofs (maxSteps := 1000000) only [↓zvN, zvU, ↓zvE, zvM, init, one, Value.cells, simprocAttr, tyF, h1, h2, eq, ew, h3]
    congr 1
    omega
  · have hb2 : y * x ≤ y * (4611686018427387904 / y) := Int.mul_le_mul_of_nonneg_left (by omega) (by omega)
    have hc : x * y = y * x := Int.mul_comm x y
    have h0 : 0 ≤ x * y := Int.mul_nonneg (by omega) (by omega)
    have em : IntKind.i64.wrap (x * y) = x * y := w64 (by omega) (by omega)
    simp -implicitDefEqProofs (maxSteps := 1000000) only [↓zvN, zvU, ↓zvE, zvM, init, one, Value.cells, simprocAttr, tyF, h1, h2, eq, ew, h3, em]
    congr 1
    omega
structure TokM where
  rate : Int
  most : Int
  level : Int
  now : Int
def TokM.cells (t : TokM) : List Value := [.int .i64 t.rate, .int .i64 t.most, .int .i64 t.level, .int .i64 t.now]
structure TokM.Ok (t : TokM) : Prop where
  r0 : 0 ≤ t.rate
  r1 : t.rate ≤ 1073741824
  m0 : 0 ≤ t.most
  m1 : t.most ≤ 1125899906842624
  l0 : 0 ≤ t.level
  l1 : t.level ≤ t.most
  n0 : 0 ≤ t.now
def TokM.at_ (t : TokM) (now : Int) : Int := if now ≤ t.now then t.level else min t.most (addM t.level (mulM (now - t.now) t.rate))
theorem TokM.at_range {t : TokM} (h : t.Ok) (now : Int) : 0 ≤ t.at_ now ∧ t.at_ now ≤ t.most := by
  have h1 := h.l0; have h2 := h.l1; have h3 := h.m0
  have h4 := addM_range t.level (mulM (now - t.now) t.rate)
  unfold TokM.at_
  split <;> omega
def TokM.upto (t : TokM) (now : Int) : TokM := { t with level := t.at_ now, now := max t.now now }
def TokM.can (t : TokM) (now n : Int) : Bool := decide (0 ≤ n ∧ n ≤ 1073741824 ∧ n * 1048576 ≤ t.at_ now)
def TokM.take (t : TokM) (now n : Int) : TokM := if t.can now n = true then { t.upto now with level := t.at_ now - n * 1048576 } else t.upto now
theorem TokM.upto_ok {t : TokM} (h : t.Ok) (now : Int) : (t.upto now).Ok := by
  have := TokM.at_range h now
  have h0 := h.n0
  exact ⟨h.r0, h.r1, h.m0, h.m1, this.1, this.2, by show 0 ≤ max t.now now; omega⟩
theorem TokM.take_ok {t : TokM} (h : t.Ok) (now n : Int) : (t.take now n).Ok := by
  have h1 := TokM.upto_ok h now
  unfold TokM.take
  split
  · rename_i hc
    have hc := of_decide_eq_true hc
    have h2 := TokM.at_range h now
    exact ⟨h1.r0, h1.r1, h1.m0, h1.m1, by show 0 ≤ t.at_ now - n * 1048576; omega, by show t.at_ now - n * 1048576 ≤ t.most; omega, h1.n0⟩
  · exact h1
theorem int64E2 : ElemT Tryz.prog 2 (.int .i64 0) 1 8 := by unfold ElemT; kernel_rfl
theorem token_at (w : World) (q : Nat) (t : TokM) (now : Int) (hb : Blk w q 341 t.cells) (ht : t.Ok) (hn : now ≤ 9223372036854775807) :
    Ret Tryz.prog 202 #[.pointer (some ⟨q, 0, none⟩), .int .i64 now] w fun v w' => v = .int .i64 (t.at_ now) ∧ More w w' := by
  refine ret_of Tryz.func202 rfl (by kernel_rfl) (Nat.le_of_ble_eq_true (by kernel_rfl)) ?_
  have c0 := hb.cell 0
  have c1 := hb.cell 1
  have c2 := hb.cell 2
  have c3 := hb.cell 3
  have hlt := hb.lt
  simp only [TokM.cells, List.getElem?_cons_zero, List.getElem?_cons_succ] at c0 c1 c2 c3
  unfold TokM.at_
  by_cases h : now ≤ t.now
  · rw [if_pos h]
    simp -implicitDefEqProofs (maxSteps := 1000000) only [↓zvN, zvU, ↓zvE, zvM, init, one, Value.cells, simprocAttr, tyF, c2, c3, h]
    exact More.refl _
  · rw [if_neg h]
    have h0 := ht.n0
    have es : IntKind.i64.wrap (now - t.now) = now - t.now := w64 (by omega) (by omega)
    simp -implicitDefEqProofs (maxSteps := 1000000) only [↓zvN, zvU, ↓zvE, zvM, init, one, Value.cells, simprocAttr, tyF, c2, c3, h]
    refine draw_line w.heap.size More [0, 0, 0, 0, 0, 0, 0, 0, 0, 0, 0, 0, 0, 0, 0, 0, 0, 0, 1, 1, 1, 0, 0] [[], [0], [0, 1], [0, 1, 2], [], [4], [4, 5], [4, 5, 6], [], [], [9], [9, 10], [9, 10, 11], [8, 9, 10, 11, 12], [], [14], [14, 15], [14, 15, 16], [8, 9, 10, 11, 12, 13, 14, 15, 16, 17], [4, 5, 6, 7, 8, 9, 10, 11, 12, 13, 14, 15, 16, 17, 18], [4, 5, 6, 7, 8, 9, 10, 11, 12, 13, 14, 15, 16, 17, 18, 19], [0, 1, 2, 3, 4, 5, 6, 7, 8, 9, 10, 11, 12, 13, 14, 15, 16, 17, 18, 19, 20], [0, 1, 2, 3, 4, 5, 6, 7, 8, 9, 10, 11, 12, 13, 14, 15, 16, 17, 18, 19, 20, 21]] mixed (by kernel_rfl) (by kernel_rfl) (More.refl _) (fun w' h => h) (fun w' h => h) ?_
    intro w1 hm1
    simp -implicitDefEqProofs (maxSteps := 1000000) only [↓zvN, zvU, ↓zqD, ↓sk_nil, ↓sk_cons, ↓sk_guard, ↓sk_zero, ↓sk_one, ↓sk_two, ↓zvE, zvM, init, one, Value.cells, simprocAttr, tyF, c0, c1, c2, c3, es, hlt]
    refine call_ok Tryz.call159 (num_mul w1 (now - t.now) t.rate) ?_
    rintro _ w2 ⟨rfl, rfl⟩
    simp -implicitDefEqProofs (maxSteps := 1000000) only [↓zvN, zvU, ↓zqD, ↓sk_nil, ↓sk_cons, ↓sk_guard, ↓sk_zero, ↓sk_one, ↓sk_two, ↓zvE, zvM, init, one, Value.cells, simprocAttr, tyF]
    refine ⟨hm1, ?_⟩
    obtain ⟨m, hm⟩ : ∃ m, mulM (now - t.now) t.rate = m := ⟨_, rfl⟩
    rw [hm]
    refine bslice (z := .int .i64 0) (cells := #[.int .i64 t.level, .int .i64 m]) Tryz.underlying77 int64E2 (by omega) (by have := bcells_list (z := .int .i64 0) [.int .i64 t.level, .int .i64 m] (by intro v hv; simp at hv; rcases hv with rfl | rfl <;> rfl); exact this) ?_
    have hm3 := more_alloc w2 (.cells #[.int .i64 t.level, .int .i64 m] 2)
    have hb3 := Blk.new w2 2 #[.int .i64 t.level, .int .i64 m]
    obtain ⟨w3, hw3⟩ : ∃ w3, w2.alloc (.cells #[.int .i64 t.level, .int .i64 m] 2) = w3 := ⟨_, rfl⟩
    rw [hw3] at hm3 hb3 ⊢
    simp -implicitDefEqProofs (maxSteps := 1000000) only [↓zvN, zvU, ↓zqD, ↓sk_nil, ↓sk_cons, ↓sk_guard, ↓sk_zero, ↓sk_one, ↓sk_two, ↓zvE, zvM, init, one, Value.cells, simprocAttr, tyF]
    refine ⟨hm1.trans hm3, ?_⟩
    refine call_ok Tryz.call137 (num_add w3 t.level m _ hb3) ?_
    rintro _ w4 ⟨rfl, rfl⟩
    simp -implicitDefEqProofs (maxSteps := 1000000) only [↓zvN, zvU, ↓zqD, ↓sk_nil, ↓sk_cons, ↓sk_guard, ↓sk_zero, ↓sk_one, ↓sk_two, ↓zvE, zvM, init, one, Value.cells, simprocAttr, tyF, c0, c1, c2, c3]
    refine ⟨hm1.trans hm3, ?_, hm1.trans hm3⟩
    congr 1
    split <;> omega
theorem token_take (w : World) (q : Nat) (t : TokM) (now n : Int) (hb : Blk w q 341 t.cells) (ht : t.Ok) (hn : now ≤ 9223372036854775807) (hn2 : n ≤ 9223372036854775807) :
    Ret Tryz.prog 138 #[.pointer (some ⟨q, 0, none⟩), .int .i64 now, .int .i64 n] w fun v w' => v = .bool (t.can now n) ∧ Blk w' q 341 (t.take now n).cells ∧ But q w w' := by
  refine ret_of Tryz.func138 rfl (by kernel_rfl) (Nat.le_of_ble_eq_true (by kernel_rfl)) ?_
  have hr := TokM.at_range ht now
  have hm1' := ht.m1
  have h0 := ht.n0
  simp -implicitDefEqProofs (maxSteps := 1000000) only [↓zvN, zvU, ↓zvE, zvM, init, one, Value.cells, simprocAttr, tyF]
  refine call_ok Tryz.call202 (token_at w q t now hb ht hn) ?_
  rintro _ w1 ⟨rfl, hm1⟩
  have hup : t.upto now = { t with level := t.at_ now, now := max t.now now } := rfl
  have htk : t.take now n = if t.can now n = true then { t.upto now with level := t.at_ now - n * 1048576 } else t.upto now := rfl
  have hcan : t.can now n = decide (0 ≤ n ∧ n ≤ 1073741824 ∧ n * 1048576 ≤ t.at_ now) := rfl
  obtain ⟨lv, hlv⟩ : ∃ lv, t.at_ now = lv := ⟨_, rfl⟩
  rw [hlv] at hr hup htk hcan ⊢
  have hb1 := hb.more hm1
  simp -implicitDefEqProofs (maxSteps := 1000000) only [↓zvN, zvU, ↓zvE, zvM, init, one, Value.cells, simprocAttr, tyF]
  refine st_cell hb1 (by simp [TokM.cells]) rfl fun w2 i1 i2 => ?_
  rw [s2_undef]
  replace i2 : Blk w2 q 341 (TokM.mk t.rate t.most lv t.now).cells := i2
  have c3 := i2.cell 3
  simp only [TokM.cells, List.getElem?_cons_zero, List.getElem?_cons_succ] at c3
  have emax : (if t.now < now then now else t.now) = max t.now now := by split <;> omega
  simp -implicitDefEqProofs (maxSteps := 1000000) only [↓zvN, zvU, ↓zvE, zvM, init, one, Value.cells, simprocAttr, tyF, c3, emax]
  refine st_cell i2 (by simp [TokM.cells]) rfl fun w3 j1 j2 => ?_
  rw [s2_undef]
  replace j2 : Blk w3 q 341 (t.upto now).cells := by rw [hup]; exact j2
  have c2 := j2.cell 2
  rw [hup] at c2
  simp only [TokM.cells, List.getElem?_cons_zero, List.getElem?_cons_succ] at c2
  have hbt : But q w w3 := ((But.of_more hm1).trans (But.of_wr i1)).trans (But.of_wr j1)
  by_cases h1 : n < 0
  · have hc : t.can now n = false := by rw [hcan]; exact decide_eq_false (by omega)
    rw [htk, hc]
    simp -implicitDefEqProofs (maxSteps := 1000000) only [↓zvN, zvU, ↓zvE, zvM, init, one, Value.cells, simprocAttr, tyF, h1]
    exact ⟨j2, hbt⟩
  by_cases h2 : 1073741824 < n
  · have hc : t.can now n = false := by rw [hcan]; exact decide_eq_false (by omega)
    rw [htk, hc]
    simp -implicitDefEqProofs (maxSteps := 1000000) only [↓zvN, zvU, ↓zvE, zvM, init, one, Value.cells, simprocAttr, tyF, h1, h2]
    exact ⟨j2, hbt⟩
  have es : IntKind.i64.wrap (n * 1048576) = n * 1048576 := w64 (by omega) (by omega)
  have hs := shl20 n
  by_cases h3 : lv < n * 1048576
  · have hc : t.can now n = false := by rw [hcan]; exact decide_eq_false (by omega)
    rw [htk, hc]
    simp -implicitDefEqProofs (maxSteps := 1000000) only [↓zvN, zvU, ↓zvE, zvM, init, one, Value.cells, simprocAttr, tyF, h1, h2, hs, es, c2, h3]
    exact ⟨j2, hbt⟩
  · have hc : t.can now n = true := by rw [hcan]; exact decide_eq_true (by omega)
    have ed : IntKind.i64.wrap (lv - n * 1048576) = lv - n * 1048576 := w64 (by omega) (by omega)
    rw [htk, hc, if_pos rfl]
    simp -implicitDefEqProofs (maxSteps := 1000000) only [↓zvN, zvU, ↓zvE, zvM, init, one, Value.cells, simprocAttr, tyF, h1, h2, hs, es, c2, h3, ed]
    refine st_cell j2 (by simp [TokM.cells]) rfl fun w4 k1 k2 => ?_
    rw [s2_undef]
    simp -implicitDefEqProofs (maxSteps := 1000000) only [↓zvN, zvU, ↓zvE, zvM, init, one, Value.cells, simprocAttr, tyF]
    exact ⟨k2, hbt.trans (But.of_wr k1)⟩
theorem choke_pick (w : World) (draw n : Int) (hd : 0 ≤ draw ∧ draw < 18446744073709551616) (hn : 1 ≤ n ∧ n ≤ 4096) :
    Ret Tryz.prog 205 #[.int .u64 draw, .int .i64 n] w fun v w' => v = .tuple #[.int .i64 (draw.tmod n), .bool true] ∧ w' = w := by
  refine ret_of Tryz.func205 rfl (by kernel_rfl) (Nat.le_of_ble_eq_true (by kernel_rfl)) ?_
  have n1 : ¬ n < 1 := by omega
  have n0 : ¬ n = 0 := by omega
  have hr : 0 ≤ draw.tmod n ∧ draw.tmod n < n := by
    rw [Int.tmod_eq_emod_of_nonneg hd.1]
    exact ⟨Int.emod_nonneg _ (by omega), Int.emod_lt_of_pos _ (by omega)⟩
  have e1 : IntKind.u64.wrap n = n := wu64 (by omega) (by omega)
  have e2 : IntKind.u64.wrap (draw.tmod n) = draw.tmod n := wu64 (by omega) (by omega)
  have e3 : IntKind.i64.wrap (draw.tmod n) = draw.tmod n := w64 (by omega) (by omega)
  simp -implicitDefEqProofs (maxSteps := 1000000) only [↓zvN, zvU, ↓zvE, zvM, init, one, Value.cells, simprocAttr, tyF, n1, n0, e1, e2, e3]
theorem choke_none (w : World) (draw : Int) :
    Ret Tryz.prog 205 #[.int .u64 draw, .int .i64 0] w fun v w' => v = .tuple #[.int .i64 0, .bool false] ∧ w' = w := by
  refine ret_of Tryz.func205 rfl (by kernel_rfl) (Nat.le_of_ble_eq_true (by kernel_rfl)) ?_
  simp -implicitDefEqProofs (maxSteps := 1000000) only [↓zvN, zvU, ↓zvE, zvM, init, one, Value.cells, simprocAttr, tyF]
open Classical in
theorem flow_ne {a b : FlowM} (ha : a.Fit) (hb : b.Fit) (w0 : World) (ox oy : Operand) (K : Value → Prop) :
    pureP Tryz.prog (do eqGuard .neq 34 ox oy (.agg a.cells.toArray) (.agg b.cells.toArray); binOp .neq 34 (.agg a.cells.toArray) (.agg b.cells.toArray)) K = K (.bool (!decide (a = b))) := by
  rw [neq_flat (n := 4) flow_g ⟨flow_tv _, flow_tv _⟩ (flow_flat ha 0) (flow_flat hb 0) (by omega) w0 ox oy K]
  simp only [FlowM.cells_inj ha hb]
noncomputable def matchM (draw : Int) (l : List FlowM) (f : FlowM) : Option Nat :=
  open Classical in if l = [] then none else if l[(draw.tmod l.length).toNat]? = some f then some (draw.tmod l.length).toNat else none
theorem choke_match_nil (w : World) (draw : Int) (A : Option Addr) (c : Nat) (f : FlowM) :
    Ret Tryz.prog 143 #[.int .u64 draw, .slice A 0 c, .agg f.cells.toArray] w fun v w' => v = .tuple #[.int .i64 0, .bool false] ∧ More w w' := by
  refine ret_of Tryz.func143 rfl (by kernel_rfl) (Nat.le_of_ble_eq_true (by kernel_rfl)) ?_
  have hm1 := more_alloc w (.cells f.cells.toArray 34)
  simp -implicitDefEqProofs (maxSteps := 1000000) only [↓zvN, zvU, ↓zvE, zvM, init, one, Value.cells, simprocAttr, tyF]
  obtain ⟨w1, hw1⟩ : ∃ w1, w.alloc (.cells f.cells.toArray 34) = w1 := ⟨_, rfl⟩
  rw [hw1] at hm1 ⊢
  refine call_ok Tryz.call205 (choke_none w1 draw) ?_
  rintro _ w2 ⟨rfl, rfl⟩
  simp -implicitDefEqProofs (maxSteps := 1000000) only [↓zvN, zvU, ↓zvE, zvM, init, one, Value.cells, simprocAttr, tyF]
  refine draw_calm mixed (by kernel_rfl) ?_
  simp -implicitDefEqProofs (maxSteps := 1000000) only [↓zvN, zvU, ↓zqD, ↓zvE, zvM, init, one, Value.cells, simprocAttr, tyF]
  intro w3 hm3
  try simp -implicitDefEqProofs (maxSteps := 1000000) only [↓zvN, zvU, ↓zvE, zvM, init, one, Value.cells, simprocAttr, tyF]
  exact hm1.trans hm3
theorem choke_match (w : World) (draw : Int) (A : Option Addr) (c : Nat) (l : List FlowM) (f : FlowM) (hd : 0 ≤ draw ∧ draw < 18446744073709551616) (hA : Cs w A (l.flatMap FlowM.cells)) (hl : ∀ x ∈ l, x.Fit) (hf : f.Fit) (hn : 1 ≤ l.length ∧ l.length ≤ 4096) {k : Nat} {x : FlowM} (hk : draw.tmod l.length = k) (hx : l[k]? = some x) :
    Ret Tryz.prog 143 #[.int .u64 draw, .slice A l.length c, .agg f.cells.toArray] w fun v w' => (x = f → v = .tuple #[.int .i64 k, .bool true]) ∧ (x ≠ f → v = .tuple #[.int .i64 0, .bool false]) ∧ More w w' := by
  refine ret_of Tryz.func143 rfl (by kernel_rfl) (Nat.le_of_ble_eq_true (by kernel_rfl)) ?_
  have hkl : k < l.length := (List.getElem?_eq_some_iff.1 hx).1
  have hxf := hl x (List.mem_of_getElem? hx)
  have hlens : ∀ y ∈ l, y.cells.length = 36 := fun y hy => FlowM.cells_len (hl y hy)
  have g0 : (0 : Int) ≤ (k : Int) := by omega
  have g1 : (k : Int) < (l.length : Int) := by omega
  have hm1 := more_alloc w (.cells f.cells.toArray 34)
  have hb1 := Blk.new w 34 f.cells.toArray
  simp -implicitDefEqProofs (maxSteps := 1000000) only [↓zvN, zvU, ↓zvE, zvM, init, one, Value.cells, simprocAttr, tyF]
  obtain ⟨w1, hw1⟩ : ∃ w1, w.alloc (.cells f.cells.toArray 34) = w1 := ⟨_, rfl⟩
  rw [hw1] at hm1 hb1 ⊢
  clear hw1
  rw [List.toList_toArray] at hb1
  obtain ⟨z, hz⟩ : ∃ z, w.heap.size = z := ⟨_, rfl⟩
  rw [hz] at hb1 ⊢
  refine call_ok Tryz.call205 (choke_pick w1 draw l.length hd (by omega)) ?_
  rintro _ w2 ⟨rfl, rfl⟩
  rw [hk]
  obtain ⟨a, rfl⟩ := hA.some_of (by rw [row_len l hlens]; omega)
  have rd := (hA.more hm1).rowEq hlens hx
  have lf := hb1.all_eq 36 (FlowM.cells_len hf)
  have lz := hb1.lt
  have la := cs_lt (hA.more hm1) (by rw [row_len l hlens]; omega)
  have hne := fun ox oy => flow_ne hxf hf w2 ox oy
  simp -implicitDefEqProofs (maxSteps := 1000000) only [↓zvN, zvU, ↓zvE, zvM, init, one, Value.cells, simprocAttr, tyF]
  refine draw_calm mixed (by kernel_rfl) ?_
  simp -implicitDefEqProofs (maxSteps := 1000000) only [↓zvN, zvU, ↓zqD, ↓zvE, zvM, init, one, Value.cells, simprocAttr, tyF, rd, lf, lz, la, g0, g1, hne, Int.toNat_natCast]
  intro w3 hm3
  try simp -implicitDefEqProofs (maxSteps := 1000000) only [↓zvN, zvU, ↓zvE, zvM, init, one, Value.cells, simprocAttr, tyF]
  exact ⟨fun e => ⟨fun h => absurd e h, hm1.trans hm3⟩, fun e => ⟨fun h => absurd h e, hm1.trans hm3⟩⟩
theorem flowE : ElemT Tryz.prog 34 (.agg flowZ.cells.toArray) 36 38 := by unfold ElemT; kernel_rfl
def flowsM (cl : List PackM) : List FlowM := cl.map PackM.flow
def FlowsJ (a : StA) (cls : Cls) (m : Nat) (cl : List PackM) (w0 : World) (v5 v12 : Value) (w : World) : Prop := ∃ (i : Nat) (A : Option Addr) (c : Nat), v12 = .int .i64 i ∧ i ≤ cl.length ∧ v5 = .slice A i c ∧ Own w w0.heap.size 34 36 A i c ((flowsM (cl.take i)).flatMap FlowM.cells) ∧ More w0 w
theorem pack_flowAt {w : World} {q : Nat} {p : PackM} (h : p.flow.Fit) (hp : p.pref.addr.length = 7) (hb : Blk w q 39 p.cells) (K : Value → Prop) : ldRow 36 ⟨q, 1, none⟩ w K = K (.agg p.flow.cells.toArray) := by
  rw [hb.row_eq 1 36 (by rw [pack_len h hp]; decide)]
  congr 2
  unfold PackM.cells
  rw [List.drop_succ_cons, List.drop_zero, List.take_append_of_le_length (by rw [FlowM.cells_len h]; exact Nat.le_refl _), List.take_of_length_le (by rw [FlowM.cells_len h]; exact Nat.le_refl _)]
theorem store_flows (w : World) (a : StA) (cls : Cls) (m : Nat) (h : StoreW w a cls m) {c : Nat} {cl : List PackM} (hc : cls[c]? = some cl) :
    Ret Tryz.prog 144 #[.pointer (some ⟨a.s, 0, none⟩), .int .i64 c] w fun v w' => ∃ A k, v = .slice A cl.length k ∧ Cs w' A ((flowsM cl).flatMap FlowM.cells) ∧ More w w' := by
  refine ret_of Tryz.func144 rfl (by kernel_rfl) (Nat.le_of_ble_eq_true (by kernel_rfl)) ?_
  obtain ⟨paths, fl, ls, ks, ps, first, free, h1, h2, h3⟩ := h.ex
  have hok := h1.fit cl (List.mem_of_getElem? hc)
  have hlen : cl.length ≤ 4096 := by have := len_cnt hc; have := h1.tot; have := h1.ml; omega
  simp -implicitDefEqProofs (maxSteps := 1000000) only [↓zvN, zvU, ↓zvE, zvM, init, one, Value.cells, simprocAttr, tyF]
  refine call_ok Tryz.call66 (store_len w a cls m h hc) ?_
  rintro _ w1 ⟨rfl, rfl⟩
  simp -implicitDefEqProofs (maxSteps := 1000000) only [↓zvN, zvU, ↓zvE, zvM, init, one, Value.cells, simprocAttr, tyF]
  refine loop_p (5 :: 6 :: 7 :: 8 :: List.range' 12 16) (fun e w' => FlowsJ a cls m cl w1 (e 5) (e 12) w') (fun e _ => cl.length - (numOf (e 12)).toNat) ?_ ?_
  · exact ⟨0, none, 0, by simp only [hv_apply, up_apply, upO_some, upO_none, init, List.mem_cons, List.mem_range'_1, true_and, and_true, and_false, false_and, Nat.reduceLT, Nat.reduceLeDiff, Nat.reduceAdd, true_or, or_true, if_true, if_false, ↓reduceIte, Nat.reduceEqDiff, false_or, or_false, List.not_mem_nil, List.getElem?_cons_zero, List.getElem?_cons_succ, Option.getD_some] <;> rfl, by omega, by simp only [hv_apply, up_apply, upO_some, upO_none, init, List.mem_cons, List.mem_range'_1, true_and, and_true, and_false, false_and, Nat.reduceLT, Nat.reduceLeDiff, Nat.reduceAdd, true_or, or_true, if_true, if_false, ↓reduceIte, Nat.reduceEqDiff, false_or, or_false, List.not_mem_nil, List.getElem?_cons_zero, List.getElem?_cons_succ, Option.getD_some] <;> rfl, Own.nil _ _ _ _, More.refl _⟩
  rintro v w2 ⟨i, A, k, h12, hi, h5, ho, hm2⟩
  simp only [hv_apply, up_apply, upO_some, upO_none, init, List.mem_cons, List.mem_range'_1, true_and, and_true, and_false, false_and, Nat.reduceLT, Nat.reduceLeDiff, Nat.reduceAdd, true_or, or_true, if_true, if_false, ↓reduceIte, Nat.reduceEqDiff, false_or, or_false, List.not_mem_nil, List.getElem?_cons_zero, List.getElem?_cons_succ, Option.getD_some] at h12 h5
  have ei : IntKind.i64.wrap ((i : Int) + 1) = ((i + 1 : Nat) : Int) := w64 (by omega) (by omega)
  simp -implicitDefEqProofs (maxSteps := 1000000) only [↓zvN, zvU, ↓zvE, zvM, init, one, Value.cells, simprocAttr, tyF, h12]
  refine ⟨fun c9 => ?_, fun c9 => ?_⟩
  · obtain ⟨pk, hpk⟩ := row_nat cl i (by omega)
    have hpo := hok pk (List.mem_of_getElem? hpk)
    try simp -implicitDefEqProofs (maxSteps := 1000000) only [↓zvN, zvU, ↓zvE, zvM, init, one, Value.cells, simprocAttr, tyF, h12]
    refine call_ok Tryz.call67 (store_at w2 a cls m (h.more hm2) hc hpk) ?_
    rintro _ w3 ⟨rfl, hm3⟩
    simp -implicitDefEqProofs (maxSteps := 1000000) only [↓zvN, zvU, ↓zvE, zvM, init, one, Value.cells, simprocAttr, tyF, zerPack]
    refine pack_var2 hpo.1 hpo.2.1 fun w4 hm4 hb4 _ => ?_
    rw [s2_undef]
    obtain ⟨q, hq⟩ : ∃ q, w3.heap.size = q := ⟨_, rfl⟩
    rw [hq] at hb4 ⊢
    have lf := pack_flowAt hpo.1 hpo.2.1 hb4
    simp -implicitDefEqProofs (maxSteps := 1000000) only [↓zvN, zvU, ↓zvE, zvM, init, one, Value.cells, simprocAttr, tyF, lf, h5]
    refine bslice1 Tryz.underlying264 flowE (by omega) (by omega) (FlowM.cells_len hpo.1) ?_
    have hm5 := more_alloc w4 (.cells pk.flow.cells.toArray 34)
    have hb5 := Blk.new w4 34 pk.flow.cells.toArray
    obtain ⟨w5, hw5⟩ : ∃ w5, w4.alloc (.cells pk.flow.cells.toArray 34) = w5 := ⟨_, rfl⟩
    rw [hw5] at hm5 hb5 ⊢
    clear hw5
    rw [List.toList_toArray] at hb5
    have s2 := hm2.size
    have s3 := hm3.size
    have s4 := hm4.size
    have s5 := hm5.size
    simp -implicitDefEqProofs (maxSteps := 1000000) only [↓zvN, zvU, ↓zvE, zvM, init, one, Value.cells, simprocAttr, tyF, h5]
    refine app_mod (B := w1.heap.size) (m := 1) (news := pk.flow.cells) Tryz.underlying264 flowE rfl (by omega) (((ho.more hm3).more hm4).more hm5) hb5.cs (by rw [FlowM.cells_len hpo.1]) (FlowM.one _) (by simp only [maxLen]; omega) (by omega) (by omega) ?_
    intro A6 c6 w6 ho6 hmd6 _
    simp -implicitDefEqProofs (maxSteps := 1000000) only [↓zvN, zvU, ↓zvE, zvM, init, one, Value.cells, simprocAttr, tyF, h12, ei]
    refine ⟨⟨?_, i + 1, A6, c6, rfl, by omega, rfl, ?_, Mod.more (((hm2.trans hm3).trans hm4).trans hm5) hmd6 (fun j hj h => by have := ((((ho.more hm3).more hm4).more hm5).atB_ge h).1; omega)⟩, by simp only [numOf]; omega⟩
    · repeat (first | exact Same.hv _ _ _ | refine Same.hv2 (fun s hs => mem_allK (by decide) hs) ?_ | refine Same.up (by simp) ?_)
    · rw [List.take_add_one, hpk]
      unfold flowsM at ho6 ⊢
      rw [List.map_append, List.flatMap_append]
      simpa using ho6
  obtain rfl : i = cl.length := by omega
  rw [List.take_length] at ho
  simp -implicitDefEqProofs (maxSteps := 1000000) only [↓zvN, zvU, ↓zvE, zvM, init, one, Value.cells, simprocAttr, tyF, h5]
  exact ⟨A, k, rfl, ho.cs, hm2⟩
end Go.Proofs.YtofhbonnojooeaaGreat

