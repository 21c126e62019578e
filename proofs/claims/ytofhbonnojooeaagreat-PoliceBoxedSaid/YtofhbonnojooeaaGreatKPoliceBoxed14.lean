/-
  Texts that the law stands on, part 14.
-/
import Derived.Test.YtofhbonnojooeaaGreatKPoliceBoxed13
import Derived.Lib.SliceRun
namespace Go.Proofs.YtofhbonnojooeaaGreat
open Go Go.RowKit Go.Proofs.RV
set_option linter.unusedSimpArgs false
set_option linter.unusedVariables false
set_option maxRecDepth 10000
set_option maxHeartbeats 4000000
structure SlotM where
  p : PrefM
  count : Int
  err : Int
def SlotM.cells (x : SlotM) : List Value := x.p.cells ++ [.int .i64 x.count, .int .i64 x.err]
theorem SlotM.len {x : SlotM} (h : x.p.addr.length = 7) : x.cells.length = 10 := by simp [SlotM.cells, PrefM.cells, h]
theorem SlotM.one (x : SlotM) : ∀ u ∈ x.cells, u.oneCell' = true := by
  intro u hu
  simp only [SlotM.cells, List.mem_append, List.mem_cons, List.not_mem_nil, or_false] at hu
  rcases hu with hu | rfl | rfl
  · exact PrefM.one _ u hu
  · rfl
  · rfl
structure SketchW (w : World) (q b : Nat) (cap : Nat) (sl : List SlotM) (total : Int) : Prop where
  blk : Blk w q 335 [.slice (some ⟨b, 0, none⟩) sl.length cap, .int .i64 total]
  row : ∃ rest : List Value, Blk w b 253 (sl.flatMap SlotM.cells ++ rest) ∧ sl.length * 10 + rest.length = cap * 10
  plen : ∀ x ∈ sl, x.p.addr.length = 7
  capr : 1 ≤ cap ∧ cap ≤ 64
  le : sl.length ≤ cap
  cb : ∀ x ∈ sl, 0 ≤ x.count ∧ x.count ≤ 4611686018427387904 ∧ 0 ≤ x.err ∧ x.err ≤ x.count
theorem SketchW.more {w w' : World} {q b cap : Nat} {sl : List SlotM} {total : Int} (h : SketchW w q b cap sl total) (hm : More w w') : SketchW w' q b cap sl total := by
  obtain ⟨rest, h1, h2⟩ := h.row
  exact ⟨h.blk.more hm, ⟨rest, h1.more hm, h2⟩, h.plen, h.capr, h.le, h.cb⟩
theorem SketchW.cs {w : World} {q b cap : Nat} {sl : List SlotM} {total : Int} (h : SketchW w q b cap sl total) : Cs w (some ⟨b, 0, none⟩) (sl.flatMap SlotM.cells) := by
  obtain ⟨rest, h1, h2⟩ := h.row
  intro i v hi
  exact h1.cs i v (by rw [List.getElem?_append_left (List.getElem?_eq_some_iff.1 hi).1]; exact hi)
theorem SketchW.lens {w : World} {q b cap : Nat} {sl : List SlotM} {total : Int} (h : SketchW w q b cap sl total) : ∀ x ∈ sl, x.cells.length = 10 := fun x hx => SlotM.len (h.plen x hx)
theorem SketchW.blt {w : World} {q b cap : Nat} {sl : List SlotM} {total : Int} (h : SketchW w q b cap sl total) : b < w.heap.size := by
  obtain ⟨rest, h1, h2⟩ := h.row
  exact h1.lt
theorem slot_pref {w : World} {z : Nat} {x : SlotM} (h : x.p.addr.length = 7) (hb : Blk w z 253 x.cells) (K : Value → Prop) : ldRow 8 ⟨z, 0, none⟩ w K = K (.agg x.p.cells.toArray) := by
  rw [hb.row_eq 0 8 (by rw [SlotM.len h]; decide)]
  congr 2
  have : x.p.cells.length = 8 := by simp [PrefM.cells, h]
  unfold SlotM.cells
  rw [List.drop_zero, List.take_append_of_le_length (by omega), List.take_of_length_le (by omega)]
open Classical in
theorem find_clo (w : World) (x : SlotM) (hx : x.p.addr.length = 7) (p : PrefM) (hp : p.addr.length = 7) (z : Nat) (hz : Blk w z 37 p.cells) :
    Ret Tryz.prog 226 #[.agg x.cells.toArray, .pointer (some ⟨z, 0, none⟩)] w fun v w' => v = .bool (decide (x.p = p)) ∧ More w w' := by
  refine ret_of Tryz.func226 rfl (by kernel_rfl) (Nat.le_of_ble_eq_true (by kernel_rfl)) ?_
  have hm1 := more_alloc w (.cells x.cells.toArray 253)
  have hb1 := Blk.new w 253 x.cells.toArray
  simp -implicitDefEqProofs (maxSteps := 1000000) only [↓zvN, zvU, ↓zvE, zvM, init, one, Value.cells, simprocAttr, tyF]
  obtain ⟨w1, hw1⟩ : ∃ w1, w.alloc (.cells x.cells.toArray 253) = w1 := ⟨_, rfl⟩
  rw [hw1] at hm1 hb1 ⊢
  clear hw1
  rw [List.toList_toArray] at hb1
  have l1 := slot_pref hx hb1
  have l2 := (hz.more hm1).all_eq 8 (by simp [PrefM.cells, hp])
  have pe := fun ox oy => pref_eq hx hp w1 ox oy
  simp -implicitDefEqProofs (maxSteps := 1000000) only [↓zvN, zvU, ↓zvE, zvM, init, one, Value.cells, simprocAttr, tyF, l1, l2, pe]
  exact hm1
open Classical in
noncomputable def slotIdx (p : PrefM) : List SlotM → Nat → Int
  | [], _ => -1
  | x :: l, k => if x.p = p then (k : Int) else slotIdx p l (k + 1)
def IdxSJ (sl : List SlotM) (p : PrefM) (w0 : World) (v8 : Value) (w : World) : Prop := ∃ i : Nat, v8 = .int .i64 i ∧ i ≤ sl.length ∧ slotIdx p sl 0 = slotIdx p (sl.drop i) i ∧ More w0 w
open Classical in
theorem sketch_index (w : World) (b cap : Nat) (sl : List SlotM) (p : PrefM) (hp : p.addr.length = 7) (z : Nat) (hz : Blk w z 37 p.cells) (hA : Cs w (some ⟨b, 0, none⟩) (sl.flatMap SlotM.cells)) (hl : ∀ x ∈ sl, x.p.addr.length = 7) (hn : sl.length ≤ 1000) :
    Ret Tryz.prog 225 #[.slice (some ⟨b, 0, none⟩) sl.length cap, .func (.func 226) #[] #[.pointer (some ⟨z, 0, none⟩)]] w fun v w' => v = .int .i64 (slotIdx p sl 0) ∧ More w w' := by
  refine ret_of Tryz.func225 rfl (by kernel_rfl) (Nat.le_of_ble_eq_true (by kernel_rfl)) ?_
  have hlens : ∀ x ∈ sl, x.cells.length = 10 := fun x hx => SlotM.len (hl x hx)
  simp -implicitDefEqProofs (maxSteps := 1000000) only [↓zvN, zvU, ↓zvE, zvM, init, one, Value.cells, simprocAttr, tyF]
  refine loop_p (5 :: List.range' 8 11) (fun e w' => IdxSJ sl p w (e 8) w') (fun e _ => sl.length - (numOf (e 8)).toNat) ?_ ?_
  · exact ⟨0, by simp only [hv_apply, up_apply, upO_some, upO_none, init, List.mem_cons, List.mem_range'_1, true_and, and_true, and_false, false_and, Nat.reduceLT, Nat.reduceLeDiff, Nat.reduceAdd, true_or, or_true, if_true, if_false, ↓reduceIte, Nat.reduceEqDiff, false_or, or_false, List.not_mem_nil, List.getElem?_cons_zero, List.getElem?_cons_succ, Option.getD_some] <;> rfl, by omega, rfl, More.refl _⟩
  rintro v w1 ⟨i, h8, hi, hidx, hm1⟩
  simp only [hv_apply, up_apply, upO_some, upO_none, init, List.mem_cons, List.mem_range'_1, true_and, and_true, and_false, false_and, Nat.reduceLT, Nat.reduceLeDiff, Nat.reduceAdd, true_or, or_true, if_true, if_false, ↓reduceIte, Nat.reduceEqDiff, false_or, or_false, List.not_mem_nil, List.getElem?_cons_zero, List.getElem?_cons_succ, Option.getD_some] at h8
  have ei : IntKind.i64.wrap ((i : Int) + 1) = ((i + 1 : Nat) : Int) := w64 (by omega) (by omega)
  simp -implicitDefEqProofs (maxSteps := 1000000) only [↓zvN, zvU, ↓zvE, zvM, init, one, Value.cells, simprocAttr, tyF, h8]
  refine ⟨fun c9 => ?_, fun c9 => ?_⟩
  · have g0 : (0 : Int) ≤ (i : Int) := by omega
    obtain ⟨x, hx⟩ := row_nat sl i (by omega)
    have rd : ∀ K : Value → Prop, ldRow 10 ⟨b, i * 10, none⟩ w1 K = K (.agg x.cells.toArray) := fun K => by
      have := (hA.more hm1).rowEq hlens hx K
      rwa [add_mk, Nat.zero_add] at this
    have hdrop : sl.drop i = x :: sl.drop (i + 1) := by
      rw [List.drop_eq_getElem_cons (by omega)]
      rw [List.getElem?_eq_getElem (by omega)] at hx
      rw [Option.some.inj hx]
    simp -implicitDefEqProofs (maxSteps := 1000000) only [↓zvN, zvU, ↓zvE, zvM, init, one, Value.cells, simprocAttr, tyF, h8, g0, c9, rd, Int.toNat_natCast]
    refine call_clo Tryz.call226 (find_clo w1 x (hl x (List.mem_of_getElem? hx)) p hp z (hz.more hm1)) ?_
    rintro _ w2 ⟨rfl, hm2⟩
    rw [hdrop, slotIdx] at hidx
    by_cases e : x.p = p
    · rw [if_pos e] at hidx
      rw [decide_eq_true e, hidx]
      simp -implicitDefEqProofs (maxSteps := 1000000) only [↓zvN, zvU, ↓zvE, zvM, init, one, Value.cells, simprocAttr, tyF, h8]
      exact hm1.trans hm2
    · rw [if_neg e] at hidx
      rw [decide_eq_false e]
      simp -implicitDefEqProofs (maxSteps := 1000000) only [↓zvN, zvU, ↓zvE, zvM, init, one, Value.cells, simprocAttr, tyF, h8, ei]
      refine ⟨⟨?_, i + 1, rfl, by omega, hidx, hm1.trans hm2⟩, by simp only [numOf]; omega⟩
      repeat (first | exact Same.hv _ _ _ | refine Same.hv2 (fun s hs => mem_allK (by decide) hs) ?_ | refine Same.up (by simp) ?_)
  obtain rfl : i = sl.length := by omega
  rw [List.drop_length, slotIdx] at hidx
  rw [hidx]
  try simp -implicitDefEqProofs (maxSteps := 1000000) only [↓zvN, zvU, ↓zvE, zvM, init, one, Value.cells, simprocAttr, tyF]
  first | exact ⟨rfl, hm1⟩ | exact hm1
theorem sketch_find (w : World) (q b cap : Nat) (sl : List SlotM) (total : Int) (h : SketchW w q b cap sl total) (p : PrefM) (hp : p.addr.length = 7) :
    Ret Tryz.prog 199 #[.pointer (some ⟨q, 0, none⟩), .agg p.cells.toArray] w fun v w' => v = .int .i64 (slotIdx p sl 0) ∧ More w w' := by
  refine ret_of Tryz.func199 rfl (by kernel_rfl) (Nat.le_of_ble_eq_true (by kernel_rfl)) ?_
  have hm1 := more_alloc w (.cells p.cells.toArray 37)
  have hb1 := Blk.new w 37 p.cells.toArray
  simp -implicitDefEqProofs (maxSteps := 1000000) only [↓zvN, zvU, ↓zvE, zvM, init, one, Value.cells, simprocAttr, tyF]
  obtain ⟨w1, hw1⟩ : ∃ w1, w.alloc (.cells p.cells.toArray 37) = w1 := ⟨_, rfl⟩
  rw [hw1] at hm1 hb1 ⊢
  clear hw1
  rw [List.toList_toArray] at hb1
  have h1 := h.more hm1
  have c0 : w1.cell? ⟨q, 0, none⟩ = some (.slice (some ⟨b, 0, none⟩) sl.length cap) := by rw [h1.blk.cell]; rfl
  simp -implicitDefEqProofs (maxSteps := 1000000) only [↓zvN, zvU, ↓zvE, zvM, init, one, Value.cells, simprocAttr, tyF, c0]
  rw [mkfunc_eq _ _ _ w1]
  simp -implicitDefEqProofs (maxSteps := 1000000) only [↓zvN, zvU, ↓zvE, zvM, init, one, Value.cells, simprocAttr, tyF]
  refine call_ok Tryz.call225 (sketch_index w1 b cap sl p hp _ hb1 h1.cs h.plen (by have := h.le; have := h.capr; omega)) ?_
  rintro _ w2 ⟨rfl, hm2⟩
  simp -implicitDefEqProofs (maxSteps := 1000000) only [↓zvN, zvU, ↓zvE, zvM, init, one, Value.cells, simprocAttr, tyF]
  exact hm1.trans hm2
def slotZ : SlotM := ⟨prefZ, 0, 0⟩
def cntS (sl : List SlotM) (j : Nat) : Int := (sl.getD j slotZ).count
def leastM (sl : List SlotM) : Nat → Nat
  | 0 => 0
  | i + 1 => if cntS sl i < cntS sl (leastM sl i) then i else leastM sl i
theorem leastM_le (sl : List SlotM) : ∀ i, leastM sl i ≤ i
  | 0 => Nat.le_refl _
  | i + 1 => by
    have := leastM_le sl i
    unfold leastM
    split <;> omega
theorem leastM_lt (sl : List SlotM) : ∀ i, 0 < i → leastM sl i < i
  | 0, h => by omega
  | i + 1, _ => by
    have := leastM_le sl i
    unfold leastM
    split <;> omega
theorem zerSlot : zer Tryz.prog 253 = some (.agg slotZ.cells.toArray) := by rw [zer253]; rfl
theorem slot_cnt {x : SlotM} (h : x.p.addr.length = 7) : x.cells[8]? = some (.int .i64 x.count) := by
  have : x.p.cells.length = 8 := by simp [PrefM.cells, h]
  unfold SlotM.cells
  rw [List.getElem?_append_right (by omega), this]
  rfl
theorem slot_err {x : SlotM} (h : x.p.addr.length = 7) : x.cells[9]? = some (.int .i64 x.err) := by
  have : x.p.cells.length = 8 := by simp [PrefM.cells, h]
  unfold SlotM.cells
  rw [List.getElem?_append_right (by omega), this]
  rfl
theorem SketchW.cnt {w : World} {q b cap : Nat} {sl : List SlotM} {total : Int} (h : SketchW w q b cap sl total) {j : Nat} (hj : j < sl.length) : w.cell? ⟨b, j * 10 + 8, none⟩ = some (.int .i64 (cntS sl j)) := by
  have hx := List.getElem?_eq_getElem hj
  have := h.cs.elemA h.lens hx (j := 8) (by decide)
  rw [add_mk, add_mk, Nat.zero_add, slot_cnt (h.plen _ (List.mem_of_getElem? hx))] at this
  rw [this]
  unfold cntS
  rw [List.getD_eq_getElem?_getD, hx]
  rfl
def LeastJ (sl : List SlotM) (w0 : World) (v3 v11 : Value) (w : World) : Prop := ∃ i : Nat, v11 = .int .i64 i ∧ i ≤ sl.length ∧ v3 = .int .i64 (leastM sl i) ∧ More w0 w
theorem sketch_least (w : World) (q b cap : Nat) (sl : List SlotM) (total : Int) (h : SketchW w q b cap sl total) :
    Ret Tryz.prog 200 #[.pointer (some ⟨q, 0, none⟩)] w fun v w' => v = .int .i64 (leastM sl sl.length) ∧ More w w' := by
  refine ret_of Tryz.func200 rfl (by kernel_rfl) (Nat.le_of_ble_eq_true (by kernel_rfl)) ?_
  have hle := h.le
  have hcap := h.capr
  have c0 : ∀ {w' : World}, SketchW w' q b cap sl total → w'.cell? ⟨q, 0, none⟩ = some (.slice (some ⟨b, 0, none⟩) sl.length cap) := fun h => by rw [h.blk.cell]; rfl
  simp -implicitDefEqProofs (maxSteps := 1000000) only [↓zvN, zvU, ↓zvE, zvM, init, one, Value.cells, simprocAttr, tyF, c0 h]
  refine loop_p (3 :: 4 :: 5 :: List.range' 11 18) (fun e w' => LeastJ sl w (e 3) (e 11) w') (fun e _ => sl.length - (numOf (e 11)).toNat) ?_ ?_
  · exact ⟨0, by simp only [hv_apply, up_apply, upO_some, upO_none, init, List.mem_cons, List.mem_range'_1, true_and, and_true, and_false, false_and, Nat.reduceLT, Nat.reduceLeDiff, Nat.reduceAdd, true_or, or_true, if_true, if_false, ↓reduceIte, Nat.reduceEqDiff, false_or, or_false, List.not_mem_nil, List.getElem?_cons_zero, List.getElem?_cons_succ, Option.getD_some] <;> rfl, by omega, by simp only [hv_apply, up_apply, upO_some, upO_none, init, List.mem_cons, List.mem_range'_1, true_and, and_true, and_false, false_and, Nat.reduceLT, Nat.reduceLeDiff, Nat.reduceAdd, true_or, or_true, if_true, if_false, ↓reduceIte, Nat.reduceEqDiff, false_or, or_false, List.not_mem_nil, List.getElem?_cons_zero, List.getElem?_cons_succ, Option.getD_some] <;> rfl, More.refl _⟩
  rintro v w1 ⟨i, h11, hi, h3, hm1⟩
  simp only [hv_apply, up_apply, upO_some, upO_none, init, List.mem_cons, List.mem_range'_1, true_and, and_true, and_false, false_and, Nat.reduceLT, Nat.reduceLeDiff, Nat.reduceAdd, true_or, or_true, if_true, if_false, ↓reduceIte, Nat.reduceEqDiff, false_or, or_false, List.not_mem_nil, List.getElem?_cons_zero, List.getElem?_cons_succ, Option.getD_some] at h11 h3
  have ei : IntKind.i64.wrap ((i : Int) + 1) = ((i + 1 : Nat) : Int) := w64 (by omega) (by omega)
  simp -implicitDefEqProofs (maxSteps := 1000000) only [↓zvN, zvU, ↓zvE, zvM, init, one, Value.cells, simprocAttr, tyF, h11]
  refine ⟨fun c9 => ?_, fun c9 => ?_⟩
  · have g0 : (0 : Int) ≤ (i : Int) := by omega
    have hw1 := h.more hm1
    obtain ⟨x, hx⟩ := row_nat sl i (by omega)
    have hxp := h.plen x (List.mem_of_getElem? hx)
    have hxc : cntS sl i = x.count := by unfold cntS; rw [List.getD_eq_getElem?_getD, hx]; rfl
    have rd : ∀ K : Value → Prop, ldRow 10 ⟨b, i * 10, none⟩ w1 K = K (.agg x.cells.toArray) := fun K => by
      have := hw1.cs.rowEq h.lens hx K
      rwa [add_mk, Nat.zero_add] at this
    simp -implicitDefEqProofs (maxSteps := 1000000) only [↓zvN, zvU, ↓zvE, zvM, init, one, Value.cells, simprocAttr, tyF, h11, g0, c9, rd, zerSlot, Int.toNat_natCast]
    have hm2 := more_alloc w1 (.cells slotZ.cells.toArray 253)
    have hb2 := Blk.new w1 253 slotZ.cells.toArray
    obtain ⟨w2, hw2⟩ : ∃ w2, w1.alloc (.cells slotZ.cells.toArray 253) = w2 := ⟨_, rfl⟩
    rw [hw2] at hm2 hb2 ⊢
    clear hw2
    obtain ⟨z, hz⟩ : ∃ z, w1.heap.size = z := ⟨_, rfl⟩
    rw [hz] at hb2 ⊢
    refine st_all hb2 (by simpa using SlotM.len hxp) rfl (by simpa using SlotM.one x) fun w3 i3 k3 => ?_
    rw [s2_undef]
    rw [List.toList_toArray] at k3
    have hm3 : More w1 w3 := i3.below hm2 (by omega)
    have hw3 := hw1.more hm3
    have cz : w3.cell? ⟨z, 8, none⟩ = some (.int .i64 (cntS sl i)) := by rw [k3.cell, hxc]; exact slot_cnt hxp
    obtain ⟨m, hm⟩ : ∃ m, leastM sl i = m := ⟨_, rfl⟩
    have hml : m < sl.length := by have := leastM_le sl i; omega
    have m0 : (0 : Int) ≤ (m : Int) := by omega
    have m1 : (m : Int) < (sl.length : Int) := by omega
    rw [hm] at h3
    have cm := hw3.cnt hml
    have lz := k3.lt
    have lb := hw3.blt
    have lq := hw3.blk.lt
    simp -implicitDefEqProofs (maxSteps := 1000000) only [↓zvN, zvU, ↓zvE, zvM, init, one, Value.cells, simprocAttr, tyF]
    refine draw_calm mixed (by kernel_rfl) ?_
    by_cases hc : cntS sl i < cntS sl m
    · simp -implicitDefEqProofs (maxSteps := 1000000) only [↓zvN, zvU, ↓zqD, ↓zvE, zvM, init, one, Value.cells, simprocAttr, tyF, h3, cz, cm, c0 hw3, m0, m1, lz, lb, lq, hc, Int.toNat_natCast]
      intro w4 hm4
      try simp -implicitDefEqProofs (maxSteps := 1000000) only [↓zvN, zvU, ↓zvE, zvM, init, one, Value.cells, simprocAttr, tyF, h11, ei]
      refine ⟨⟨?_, i + 1, rfl, by omega, ?_, hm1.trans (hm3.trans hm4)⟩, by simp only [numOf]; omega⟩
      · repeat (first | exact Same.hv _ _ _ | refine Same.hv2 (fun s hs => mem_allK (by decide) hs) ?_ | refine Same.up (by simp) ?_)
      · show Value.int .i64 (i : Int) = _
        rw [leastM, hm, if_pos hc]
    · simp -implicitDefEqProofs (maxSteps := 1000000) only [↓zvN, zvU, ↓zqD, ↓zvE, zvM, init, one, Value.cells, simprocAttr, tyF, h3, cz, cm, c0 hw3, m0, m1, lz, lb, lq, hc, Int.toNat_natCast]
      intro w4 hm4
      try simp -implicitDefEqProofs (maxSteps := 1000000) only [↓zvN, zvU, ↓zvE, zvM, init, one, Value.cells, simprocAttr, tyF, h11, ei]
      refine ⟨⟨?_, i + 1, rfl, by omega, ?_, hm1.trans (hm3.trans hm4)⟩, by simp only [numOf]; omega⟩
      · repeat (first | exact Same.hv _ _ _ | refine Same.hv2 (fun s hs => mem_allK (by decide) hs) ?_ | refine Same.up (by simp) ?_)
      · rw [leastM, hm, if_neg hc]
        exact h3
  obtain rfl : i = sl.length := by omega
  simp -implicitDefEqProofs (maxSteps := 1000000) only [↓zvN, zvU, ↓zvE, zvM, init, one, Value.cells, simprocAttr, tyF, h3]
  exact hm1

end Go.Proofs.YtofhbonnojooeaaGreat

namespace Go.Proofs.RV
open Go Go.RowKit
set_option linter.unusedSimpArgs false
set_option linter.unusedVariables false
section
variable {P : Program} {Ext : World → World → Prop} {ops : Array Oper} {w0 : World} {D : List (List Nat)}
theorem any_seqKM {m : Nat} (hrf : Ext w0 w0) (hD : OkD ops D) {F : List Bool} (hF : okF D F = true) (hT : ∀ (i : Nat) (o : Oper), ops[i]? = some o → m ≤ i → ∀ j, j < i → j ∈ D.getD i []) (hm : m ≤ ops.size) {n : Nat} {K : Env → World → Prop} {Q : Exit → Act → World → Prop} (hn : ∀ o ∈ ops, ∀ t, o.dst = some t → t < n) (hQ : ∀ a e w, Rep n a e → K e w → Q .normal a w) :
    ∀ (fuel : Nat) (listed : Array Bool) (a : Act) (e : Env) (w : World), listed.size = ops.size → Rep n a e → (∀ (i : Nat) (o : Oper), ops[i]? = some o → listed.getD i false = true → ∀ x ∈ D.getD i [], listed.getD x false = true) → Ext w0 w → (∀ j, m ≤ j → listed.getD j false = false) →
      sqSK P Ext ops w0 (rems F listed (ops.toList.zipIdx.take m)) e w (fun e w => opsP P ops (ops.toList.drop m) e w K) → ((List.range ops.size).filter fun j => !listed.getD j false).length ≤ fuel → wpAny P .any ops Q fuel listed a w := by
  have tl : ∀ (fuel : Nat) (listed : Array Bool) (a : Act) (e : Env) (w : World), listed.size = ops.size → Rep n a e → (∀ j, m ≤ j → listed.getD j false = false) →
      sqSK P Ext ops w0 (rems F listed (ops.toList.zipIdx.take m)) e w (fun e w => opsP P ops (ops.toList.drop m) e w K) → ((List.range ops.size).filter fun j => !listed.getD j false).length ≤ fuel → (∀ (j : Nat) (q : Oper), j < m → ops[j]? = some q → listed.getD j false = true) → wpAny P .any ops Q fuel listed a w := by
    intro fuel listed a e w hsz hr hLm hs hf hpre
    have hrem : rems F listed (ops.toList.zipIdx.take m) = [] := by
      unfold rems
      rw [List.filter_eq_nil_iff.2 fun x hx => ?_, List.map_nil]
      obtain ⟨k, hk⟩ := List.getElem?_of_mem hx
      rw [List.getElem?_take] at hk
      split at hk
      · rename_i hkm
        rw [List.getElem?_zipIdx] at hk
        simp only [Option.map_eq_some_iff] at hk
        obtain ⟨y, hy, rfl⟩ := hk
        rw [hpre (0 + k) y (by omega) (by simpa using hy)]
        simp
      · cases hk
    rw [hrem] at hs
    have hmn : ops.size - m ≤ fuel := by
      refine Nat.le_trans ?_ hf
      have : ((List.range ops.size).drop m).length ≤ ((List.range ops.size).filter fun j => !listed.getD j false).length := by
        refine (List.Sublist.length_le ?_)
        have h1 : (List.range ops.size).drop m = ((List.range ops.size).drop m).filter fun j => !listed.getD j false := by
          refine (List.filter_eq_self.2 fun j hj => ?_).symm
          obtain ⟨i, hi, hij⟩ := List.mem_iff_getElem.1 hj
          simp at hij
          rw [hLm j (by omega)]
          rfl
        rw [h1]
        exact (List.drop_sublist _ _).filter _
      simpa using this
    exact tail_any hD hT hn hQ (ops.toList.drop m) m fuel listed a e w (Nat.le_refl _) (fun j => by simp) hsz (fun j hj => by
      rcases Nat.lt_or_ge j m with h1 | h1
      · rw [hpre j _ h1 (Array.getElem?_eq_getElem hj)]; simp [h1]
      · rw [hLm j h1]; simp; omega) (by simp; omega) (by simpa using hmn) hr hs
  intro fuel
  induction fuel with
  | zero =>
    intro listed a e w hsz hr hsh hb hLm hs hf
    have hall : ∀ j, j < ops.size → listed.getD j false = true := by
      intro j hj
      cases h : listed.getD j false with
      | true => rfl
      | false =>
        have : j ∈ (List.range ops.size).filter fun j => !listed.getD j false := List.mem_filter.2 ⟨List.mem_range.2 hj, by rw [h]; rfl⟩
        rw [List.eq_nil_of_length_eq_zero (Nat.le_zero.1 hf)] at this
        cases this
    exact tl 0 listed a e w hsz hr hLm hs hf fun j q _ hq => hall j (Array.getElem?_eq_some_iff.1 hq).1
  | succ fuel ih =>
    intro listed a e w hsz hr hsh hb hLm hs hf
    by_cases hpre : ∀ (j : Nat) (q : Oper), j < m → ops[j]? = some q → listed.getD j false = true
    · exact tl (fuel + 1) listed a e w hsz hr hLm hs hf hpre
    have same : ∀ j, j < ops.size → listed.getD j true = listed.getD j false := fun j hj => by
      simp [Array.getD_eq_getD_getElem?, Array.getElem?_eq_getElem (hsz ▸ hj)]
    refine ⟨fun hnil => ?_, fun i hi => ?_⟩
    · refine absurd (fun j q _ hq => ?_) hpre
      have key : ∀ M j (q : Oper), j ≤ M → ops[j]? = some q → listed.getD j false = true := by
        intro M
        induction M with
        | zero =>
          intro j q hj hq
          obtain rfl : j = 0 := by omega
          cases h : listed.getD 0 false with
          | true => rfl
          | false =>
            have : 0 ∈ Region.ready .any ops listed := mem_ready.2 ⟨by rw [same 0 (Array.getElem?_eq_some_iff.1 hq).1]; exact h, q, hq, fun ed hed hb => absurd (hD.lt 0 q hq ed.on (hD.bind 0 q hq ed.on (List.mem_filterMap.2 ⟨ed, by simpa using hed, by rw [if_pos hb]⟩))) (Nat.not_lt_zero _)⟩
            rw [hnil] at this
            cases this
        | succ M ihm =>
          intro j q hj hq
          by_cases hjm : j ≤ M
          · exact ihm j q hjm hq
          · cases h : listed.getD j false with
            | true => rfl
            | false =>
              have : j ∈ Region.ready .any ops listed := mem_ready.2 ⟨by rw [same j (Array.getElem?_eq_some_iff.1 hq).1]; exact h, q, hq, fun ed hed hb => by
                have h1 := hD.bind j q hq ed.on (List.mem_filterMap.2 ⟨ed, by simpa using hed, by rw [if_pos hb]⟩)
                have h2 := hD.lt j q hq ed.on h1
                have h3 := (Array.getElem?_eq_some_iff.1 hq).1
                exact ihm ed.on _ (by omega) (Array.getElem?_eq_getElem (show ed.on < ops.size by omega))⟩
              rw [hnil] at this
              cases this
      exact key j j q (Nat.le_refl _) hq
    · obtain ⟨h1, o, ho, h2⟩ := mem_ready.1 hi
      have hi' := (Array.getElem?_eq_some_iff.1 ho).1
      have hLi : listed.getD i false = false := (same i hi').symm.trans h1
      have hdone : ∀ x ∈ D.getD i [], listed.getD x false = true := by
        have hb : ∀ x ∈ binding o, listed.getD x false = true := by
          intro x hx
          obtain ⟨ed, hed, hh⟩ := List.mem_filterMap.1 hx
          by_cases hb : Region.binds .any ed = true
          · rw [if_pos hb] at hh
            injection hh with hh
            subst hh
            exact h2 ed (by simpa using hed) hb
          · rw [if_neg hb] at hh
            cases hh
        intro x hx
        rcases hD.dep i o ho x hx with h3 | ⟨j, hj, hxj⟩
        · exact hb x h3
        · have hjs : j < ops.size := by
            have := hD.lt i o ho j (hD.bind i o ho j hj)
            omega
          exact hsh j _ (Array.getElem?_eq_getElem hjs) (hb j hj) x hxj
      have him : i < m := by
        rcases Nat.lt_or_ge i m with h5 | h5
        · exact h5
        · exact absurd (fun j q hj hq => hdone j (hT i o ho h5 j (by omega))) hpre
      -- the list, parted at i
      obtain ⟨Z, hZ⟩ : ∃ Z, ops.toList.zipIdx.take m = Z := ⟨_, rfl⟩
      have hZi : ∀ (k : Nat) (x : Oper × Nat), Z[k]? = some x → x.2 = k ∧ ops[k]? = some x.1 := by
        intro k x hk
        rw [← hZ, List.getElem?_take] at hk
        split at hk
        · rw [List.getElem?_zipIdx] at hk
          simp only [Option.map_eq_some_iff] at hk
          obtain ⟨y, hy, rfl⟩ := hk
          exact ⟨by simp, by simpa using hy⟩
        · cases hk
      rw [hZ] at hs
      have hsplit : Z = Z.take i ++ (o, i) :: Z.drop (i + 1) := by
        have hg : Z[i]? = some (o, i) := by
          rw [← hZ, List.getElem?_take, if_pos him, List.getElem?_zipIdx]
          simp [ho]
        have hlt := (List.getElem?_eq_some_iff.1 hg).1
        conv => lhs; rw [← List.take_append_drop i Z]
        rw [List.drop_eq_getElem_cons hlt]
        rw [(List.getElem?_eq_some_iff.1 hg).2]
      have hpre2 : ∀ x ∈ Z.take i, x.2 < i ∧ ops[x.2]? = some x.1 := by
        intro x hx
        obtain ⟨k, hk⟩ := List.getElem?_of_mem hx
        rw [List.getElem?_take] at hk
        split at hk
        · rename_i hki
          obtain ⟨h5, h6⟩ := hZi k x hk
          rw [h5]
          exact ⟨hki, h6⟩
        · cases hk
      have hpost : ∀ x ∈ Z.drop (i + 1), x.2 ≠ i := by
        intro x hx
        obtain ⟨k, hk⟩ := List.getElem?_of_mem hx
        rw [List.getElem?_drop] at hk
        have := (hZi _ x hk).1
        omega
      have hr1 : rems F listed Z = rems F listed (Z.take i) ++ (F.getD i false, i, o) :: rems F listed (Z.drop (i + 1)) := by
        conv => lhs; rw [hsplit]
        unfold rems
        rw [List.filter_append, List.map_append, List.filter_cons_of_pos (by simp only [hLi]; rfl), List.map_cons]
      have hr2 : rems F (listed.setIfInBounds i true) Z = rems F listed (Z.take i) ++ rems F listed (Z.drop (i + 1)) := by
        conv => lhs; rw [hsplit]
        rw [← rems_listed (F := F) (hsz ▸ hi') (Z.take i) (fun x hx => by have := (hpre2 x hx).1; omega), ← rems_listed (F := F) (hsz ▸ hi') (Z.drop (i + 1)) hpost]
        unfold rems
        rw [List.filter_append, List.map_append, List.filter_cons_of_neg (by simp only [set_get (hsz ▸ hi')]; simp)]
      rw [hr1] at hs
      have hs2 := frontK hrf (rems F listed (Z.take i)) (fun x hx => by
        unfold rems at hx
        obtain ⟨y, hy, rfl⟩ := List.mem_map.1 hx
        obtain ⟨hy1, hy2⟩ := List.mem_filter.1 hy
        obtain ⟨hlt, hq⟩ := hpre2 y hy1
        have hyl : listed.getD y.2 false = false := by simpa using hy2
        have hnd : y.2 ∉ D.getD i [] := fun hh => by rw [hdone _ hh] at hyl; cases hyl
        have hnd2 : i ∉ D.getD y.2 [] := fun hh => by have := hD.lt y.2 _ hq i hh; omega
        refine ⟨⟨fun s hs hd => ?_, fun s hs hd => ?_, fun s hd => hD.dst i o y.2 _ ho hq (by omega) s hd, hD.sel i o ho, hD.sel y.2 _ hq⟩, fun hff => ?_⟩
        · rcases hD.read i o ho s hs y.2 _ hq hd with h5 | h5
          · exact hnd h5
          · exact hnd2 h5
        · rcases hD.read y.2 _ hq s hs i o ho hd with h5 | h5
          · exact hnd2 h5
          · exact hnd h5
        · exact hnd (okF_spec hF hff.2 hff.1 hlt)) e w hs
      rw [sqS_consK] at hs2
      rw [← hr2] at hs2
      have hlen : ((List.range ops.size).filter fun j => !(listed.setIfInBounds i true).getD j false).length ≤ fuel := by
        have hsub : ((List.range ops.size).filter fun j => !(listed.setIfInBounds i true).getD j false) = ((List.range ops.size).filter fun j => !listed.getD j false).filter (fun j => !(j == i)) := by
          rw [List.filter_filter]
          apply List.filter_congr
          intro j _
          rw [set_get (hsz ▸ hi')]
          by_cases hji : j = i
          · simp [hji]
          · simp [hji]
        have hmem : i ∈ (List.range ops.size).filter fun j => !listed.getD j false := List.mem_filter.2 ⟨List.mem_range.2 hi', by rw [hLi]; rfl⟩
        rw [hsub]
        have : (((List.range ops.size).filter fun j => !listed.getD j false).filter fun j => !(j == i)).length < ((List.range ops.size).filter fun j => !listed.getD j false).length := by
          refine List.length_filter_lt_length_iff_exists.2 ⟨i, hmem, by simp⟩
        omega
      have hsh' : ∀ (j : Nat) (q : Oper), ops[j]? = some q → (listed.setIfInBounds i true).getD j false = true → ∀ x ∈ D.getD j [], (listed.setIfInBounds i true).getD x false = true := by
        intro j q hq hj x hx
        rw [set_get (hsz ▸ hi')] at hj ⊢
        split
        · rfl
        · split at hj
          · rename_i hji
            subst hji
            exact hdone x hx
          · exact hsh j q hq hj x hx
      have hnd := hn o (by rw [Array.mem_iff_getElem?]; exact ⟨i, ho⟩)
      have hLm' : ∀ j, m ≤ j → (listed.setIfInBounds i true).getD j false = false := by
        intro j hj
        rw [set_get (hsz ▸ hi')]
        split
        · omega
        · exact hLm j hj
      rw [← hZ] at hs2
      have next : ∀ v w', Ext w0 w' → sqSK P Ext ops w0 (rems F (listed.setIfInBounds i true) (ops.toList.zipIdx.take m)) (upO e o.dst v) w' (fun e w => opsP P ops (ops.toList.drop m) e w K) → wpAny P .any ops Q fuel (listed.setIfInBounds i true) (a.put o.dst v) w' :=
        fun v w' hb' hh => ih _ _ _ _ (by simpa using hsz) (hr.put _ hnd v) hsh' hb' hLm' hh hlen
      unfold wpOp
      simp only [ho]
      rw [wanted_eq hr]
      unfold stepSK at hs2
      by_cases hw : wants o.guard ops e = true
      · rw [if_pos hw] at hs2 ⊢
        refine .inl ?_
        by_cases hff : F.getD i false = true
        · rw [if_pos hff] at hs2
          exact op_wp hr hs2 fun v w' ⟨h3, h4⟩ => next v w' h3 h4
        · rw [if_neg hff] at hs2
          obtain ⟨v, hval, h4⟩ := hs2
          refine op_wp (K := fun u w' => u = v ∧ w' = w) hr ?_ ?_
          · rw [hval w hb]
            exact ⟨rfl, rfl⟩
          · rintro u w' ⟨rfl, rfl⟩
            exact next u w' hb h4
      · rw [if_neg hw] at hs2 ⊢
        exact next undef w hb hs2
end
theorem draw_lineM {P : Program} {id : Nat} {l : List Oper} {e0 : Env} {w0 : World} {K : Env → World → Prop} (B : Nat) (Ext : World → World → Prop) (m : Nat) (F : List Nat) (D : List (List Nat)) (hm : P.follows .mixedOrders = true) (hD : okD l.toArray D = true) (hF : okF D (F.map (· == 1)) = true) (hT : okT l.toArray D m = true)
    (hrf : Ext w0 w0) (hdr : ∀ w', More w0 w' → Ext w0 w') (hBe : ∀ w', Ext w0 w' → Below B w0 w')
    (hv : ∀ w1, More w0 w1 → skP P B Ext l.toArray w0 (l.take m) F e0 w1 (Stop (fun e w => opsP P l.toArray (l.drop m) e w K) .mk)) : drawP P id l.toArray e0 w0 K := by
  intro n a hd hr
  refine wp_region_any hm ?_
  obtain ⟨hm1, hT1⟩ := okT_spec hT
  refine any_seqKM (m := m) (Ext := Ext) (w0 := w0) hrf (okD_spec hD) hF hT1 hm1 hd (fun a e w hr hk => ⟨e, hr, rfl, hk⟩) l.toArray.size _ a e0 _ (by simp) hr ?_ (hdr _ (below_drawn _ _)) ?_ ?_ ?_
  · intro i o ho hi
    simp [Array.getD_eq_getD_getElem?, Array.getElem?_replicate] at hi
    split at hi <;> simp at hi
  · intro j _
    simp [Array.getD_eq_getD_getElem?, Array.getElem?_replicate]
    split <;> rfl
  · have h1 := sk_sound (F := F.map (· == 1)) hBe (l.take m) 0 F e0 _ (fun j => by
      rw [Nat.zero_add, List.getD_eq_getElem?_getD, List.getD_eq_getElem?_getD, List.getElem?_map]
      cases F[j]? <;> rfl) (hv _ (below_drawn _ _))
    have h2 : rems (F.map (· == 1)) (Array.replicate l.toArray.size false) (l.toArray.toList.zipIdx.take m) = ((l.take m).zipIdx 0).map fun x => ((F.map (· == 1)).getD x.2 false, x.2, x.1) := by
      unfold rems
      rw [List.filter_eq_self.2 fun x _ => ?_]
      · have h3 : l.toArray.toList.zipIdx.take m = (l.take m).zipIdx := by
          apply List.ext_getElem?
          intro j
          simp only [List.getElem?_take, List.getElem?_zipIdx]
          split <;> simp
        rw [h3]
      · simp [Array.getD_eq_getD_getElem?, Array.getElem?_replicate]
        split <;> rfl
    rw [h2]
    exact h1
  · exact Nat.le_trans (List.length_filter_le _ _) (by simp)
end Go.Proofs.RV

namespace Go.Proofs.YtofhbonnojooeaaGreat
open Go Go.RowKit Go.Proofs.RV
set_option linter.unusedSimpArgs false
set_option linter.unusedVariables false
set_option maxRecDepth 10000
set_option maxHeartbeats 4000000
theorem app_room {P : Program} {t ty e : TypeId} {z : Value} {size bytes g n m c cap : Nat} {a : Addr} {cs news : List Value} {w : World} {K : Value → World → Prop} (ht : P.underlying t = some (.slice e)) (hE : ElemT P e z size bytes)
    (hb : Blk w g e cs) (hsrc : Cs w (some a) news) (hl : news.length = m * size) (h1 : ∀ u ∈ news, u.oneCell' = true) (hroom : n + m ≤ cap) (hfit : n * size + news.length ≤ cs.length)
    (hK : ∀ w', Wr g w w' → Blk w' g e (splice cs (n * size) news) → K (.slice (some ⟨g, 0, none⟩) (n + m) cap) w') :
    runP P (Builtin.append_ #[t, t] ty #[.slice (some ⟨g, 0, none⟩) n cap, .slice (some a) m c]) w K := by
  obtain ⟨i, hi, hzi, hs, hby⟩ := info_parts hE
  subst hs
  have hr := run_append_room (P := P) w t ty e i ht hi g n cap cs.toArray hb a m c news hl (fun j u hj => by
    obtain ⟨x, hx, hc⟩ := hsrc j u hj
    cases hx
    exact hc) h1 hroom (by simpa using hfit)
  refine ⟨_, _, hr, hK _ ⟨rfl, rfl, rfl, by simp [World.setRow], fun k hk => setRow_other w g k _ hk⟩ ?_⟩
  have := setRow_heap w g _ (cs.toArray.toList.take (n * i.size) ++ news ++ cs.toArray.toList.drop (n * i.size + news.length)).toArray e _ hb
  rw [splice_eq _ _ _ hfit]
  unfold Blk
  simpa using this
theorem clear_one {P : Program} {t e ty : TypeId} {k : IntKind} {b o c : Nat} {w : World} {cs : List Value} {K : Value → World → Prop} (ht : P.underlying t = some (.slice e)) (he : ElemT P e (.int k 0) 1 8) (hb : Blk w b e cs) (ho : o < cs.length)
    (hK : ∀ w', Wr b w w' → Blk w' b e (cs.set o (.int k 0)) → K (.tuple #[]) w') : runP P (Builtin.clear_ #[t] ty #[.slice (some ⟨b, o, none⟩) 1 c]) w K := by
  obtain ⟨i, hi, hzi, hs, hby⟩ := info_parts he
  have hzero : ∀ w, (zeroValue e).run P w = .ok (.int k 0) w := fun w => zero_run (by unfold zer; rw [hi]; exact hzi) w
  have hr := Go.Lib.run_clear_slice (P := P) w t e ty (.int k 0) ht hzero rfl rfl b o 1 c (by decide) (fun j hj => by
    have : j = 0 := by omega
    subst this
    rw [hb.cell, List.getElem?_eq_getElem (by omega)]; rfl) (fun j hj => hb.frozen _)
  refine ⟨_, _, hr, hK _ (wr_setCells b _ o w) ?_⟩
  have h2 := Blk.sets (List.replicate 1 (Value.int k 0)) o w cs hb
  rwa [show List.replicate 1 (Value.int k 0) = [Value.int k 0] from rfl, set_splice _ _ _ ho] at h2
theorem slice3_any {P : Program} {T e : TypeId} {A : Option Addr} {n c lo hi mx : Nat} (hT : P.underlying T = some (.slice e)) (hc : P.cellsOf e ≠ 0) (h1 : lo ≤ hi) (h2 : hi ≤ mx) (h3 : mx ≤ c) (kl kh km : IntKind) (w0 : World) (K : Value → Prop) :
    sliceP P T (.slice A n c) (some (.int kl (lo : Int))) (some (.int kh (hi : Int))) (some (.int km (mx : Int))) K = K (.slice (if mx = lo then A else A.map fun x => x.add (lo * P.cellsOf e)) (hi - lo) (mx - lo)) := by
  unfold sliceP
  rw [hT]
  refine pure_eq (fun w => ?_) w0 K
  unfold Instr.sliceAt Instr.slice Instr.sliceBounds
  have e0 : (mx - lo = 0) = (mx = lo) := propext ⟨fun h => by omega, fun h => by omega⟩
  simp [run_un hT, size_run' hc, bound_run h1, bound_run h2, bound_run h3, e0]
def IdxJ (w0 : World) (xs : List Int) (v : Int) (v8 : Value) (w : World) : Prop := ∃ i : Nat, v8 = .int .i64 i ∧ i ≤ xs.length ∧ (∀ k, k < i → xs[k]? ≠ some v) ∧ w = w0
theorem slices_index (w : World) (q n c : Nat) (xs rest : List Int) (v : Int) (hb : Blk w q 3 (ints (xs ++ rest))) (hn : n = xs.length) {j : Nat} (hj : xs[j]? = some v) (hf : ∀ k, k < j → xs[k]? ≠ some v) (hl : xs.length ≤ 1000) :
    Ret Tryz.prog 173 #[.slice (some ⟨q, 0, none⟩) n c, .int .i64 v] w fun u w' => u = .int .i64 j ∧ w' = w := by
  subst hn
  refine ret_of Tryz.func173 rfl (by kernel_rfl) (Nat.le_of_ble_eq_true (by kernel_rfl)) ?_
  have hjl : j < xs.length := (List.getElem?_eq_some_iff.1 hj).1
  simp -implicitDefEqProofs (maxSteps := 1000000) only [↓zvN, zvU, ↓zvE, zvM, init, one, Value.cells, simprocAttr, tyF]
  refine loop_p (5 :: List.range' 8 11) (fun e w' => IdxJ w xs v (e 8) w') (fun e _ => xs.length - (numOf (e 8)).toNat) ?_ ?_
  · exact ⟨0, by simp only [hv_apply, up_apply, upO_some, upO_none, init, List.mem_cons, List.mem_range'_1, true_and, and_true, and_false, false_and, Nat.reduceLT, Nat.reduceLeDiff, Nat.reduceAdd, true_or, or_true, if_true, if_false, ↓reduceIte, Nat.reduceEqDiff, false_or, or_false, List.not_mem_nil, List.getElem?_cons_zero, List.getElem?_cons_succ, Option.getD_some] <;> rfl, by omega, (fun k hk => by omega), rfl⟩
  rintro e w1 ⟨i, h8, hi, hnot, rfl⟩
  simp only [hv_apply, up_apply, upO_some, upO_none, init, List.mem_cons, List.mem_range'_1, true_and, and_true, and_false, false_and, Nat.reduceLT, Nat.reduceLeDiff, Nat.reduceAdd, true_or, or_true, if_true, if_false, ↓reduceIte, Nat.reduceEqDiff, false_or, or_false, List.not_mem_nil, List.getElem?_cons_zero, List.getElem?_cons_succ, Option.getD_some] at h8
  have ei : IntKind.i64.wrap ((i : Int) + 1) = ((i + 1 : Nat) : Int) := w64 (by omega) (by omega)
  simp -implicitDefEqProofs (maxSteps := 1000000) only [↓zvN, zvU, ↓zvE, zvM, init, one, Value.cells, simprocAttr, tyF, h8]
  have hij : i ≤ j := by
    rcases Nat.lt_or_ge j i with h | h
    · exact absurd hj (hnot j h)
    · exact h
  refine ⟨fun h9 => ?_, fun h9 => by omega⟩
  have g0 : (0 : Int) ≤ (i : Int) := by omega
  obtain ⟨x, hx⟩ : ∃ x, xs[i]? = some x := ⟨xs[i]'(by omega), List.getElem?_eq_getElem _⟩
  have cx : w1.cell? ⟨q, i, none⟩ = some (.int .i64 x) := by
    rw [hb.cell]
    unfold ints
    rw [List.getElem?_map, List.getElem?_append_left (by omega), hx]
    rfl
  by_cases e : i = j
  · subst e
    have hxv : x = v := by rw [hj] at hx; exact (Option.some.inj hx).symm
    subst hxv
    simp -implicitDefEqProofs (maxSteps := 1000000) only [↓zvN, zvU, ↓zvE, zvM, init, one, Value.cells, simprocAttr, tyF, h8, h9, g0, Int.toNat_natCast, cx]
  · have hne : ¬ v = x := by
      intro e2
      exact hf i (by omega) (by rw [hx, e2])
    simp -implicitDefEqProofs (maxSteps := 1000000) only [↓zvN, zvU, ↓zvE, zvM, init, one, Value.cells, simprocAttr, tyF, h8, h9, g0, Int.toNat_natCast, cx, hne, ei]
    refine ⟨⟨?_, i + 1, rfl, by omega, fun k hk => ?_, rfl⟩, by simp only [numOf]; omega⟩
    · repeat (first | exact Same.hv _ _ _ | refine Same.hv2 (fun s hs => mem_allS (by decide) hs) ?_ | refine Same.up (by simp) ?_)
    · rcases Nat.lt_or_ge k i with h | h
      · exact hnot k h
      · have : k = i := by omega
        subst this
        rw [hx]
        exact fun h => hne (Option.some.inj h).symm
theorem slices_delete (w : World) (q n c : Nat) (xs rest : List Int) (hb : Blk w q 3 (ints (xs ++ rest))) (hn : n = xs.length) {j : Nat} (hj : j < xs.length) (hc : n ≤ c) (hl : xs.length ≤ 1000) :
    Ret Tryz.prog 174 #[.slice (some ⟨q, 0, none⟩) n c, .int .i64 j, .int .i64 ((j + 1 : Nat) : Int)] w fun u w' => u = .slice (some ⟨q, 0, none⟩) (n - 1) c ∧ Blk w' q 3 (ints (xs.eraseIdx j ++ 0 :: rest)) ∧ But q w w' := by
  subst hn
  refine ret_of Tryz.func174 rfl (by kernel_rfl) (Nat.le_of_ble_eq_true (by kernel_rfl)) ?_
  have g0 : (0 : Int) ≤ (j : Int) := by omega
  have g1 : (0 : Int) ≤ ((j + 1 : Nat) : Int) := by omega
  have g2 : (j : Int) ≤ ((j + 1 : Nat) : Int) := by omega
  have g3 : ((j + 1 : Nat) : Int) ≤ (xs.length : Int) := by omega
  have g4 : (xs.length : Int) ≤ (c : Int) := by omega
  have g5 : ¬ (j : Int) = ((j + 1 : Nat) : Int) := by omega
  simp -implicitDefEqProofs (maxSteps := 1000000) only [↓zvN, zvU, ↓zvE, zvM, init, one, Value.cells, simprocAttr, tyF, g0, g1, g2, g3, g4, g5, Int.toNat_natCast]
  have s3 := fun kl kh km K => slice3_any (A := some ⟨q, 0, none⟩) (n := xs.length) (c := c) (K := K) Tryz.underlying157 (by rw [cells3]; decide) (show j ≤ j + 1 by omega) (show j + 1 ≤ xs.length by omega) hc kl kh km w
  rw [s3]
  simp -implicitDefEqProofs (maxSteps := 1000000) only [↓zvN, zvU, ↓zvE, zvM, init, one, Value.cells, simprocAttr, tyF, g5]
  refine draw_seen 6 [[], [], [0, 1], [], [], [3, 4], [0, 1, 2, 3, 4, 5], [0, 1, 2, 3, 4, 5, 6]] (RV.look []) mixed (by kernel_rfl) (by kernel_rfl) (look_keeps _ (by simp)) ?_
  simp -implicitDefEqProofs (maxSteps := 1000000) only [↓zvN, zvU, ↓zqD, ↓zvE, zvM, init, one, Value.cells, simprocAttr, tyF, g0, g1, g2, g3, g4, g5, Int.toNat_natCast]
  refine ⟨by omega, by omega, fun w1 hm1 => ?_⟩
  obtain ⟨y, hy⟩ : ∃ y, xs[xs.length - 1]? = some y := ⟨xs[xs.length - 1]'(by omega), List.getElem?_eq_getElem _⟩
  have hxd : xs.drop (xs.length - 1) = [y] := by
    rw [List.drop_eq_getElem_cons (by omega), List.drop_eq_nil_of_le (by omega)]
    rw [List.getElem?_eq_getElem (by omega)] at hy
    rw [Option.some.inj hy]
  have hb1 := hb.more hm1
  have hcat : ∀ (a b : List Int), ints (a ++ b) = ints a ++ ints b := fun a b => by unfold ints; rw [List.map_append]
  have hnews : (ints (xs.drop (j + 1))).length = xs.length - (j + 1) := by rw [ints_len, List.length_drop]
  have hle : (ints (xs ++ rest)).length = xs.length + rest.length := by rw [ints_len, List.length_append]
  have hsp : splice (ints (xs ++ rest)) (j * 1) (ints (xs.drop (j + 1))) = ints (xs.eraseIdx j ++ y :: rest) := by
    rw [splice_eq _ _ _ (by omega), hnews, Nat.mul_one, show j + (xs.length - (j + 1)) = xs.length - 1 by omega, List.eraseIdx_eq_take_drop_succ]
    unfold ints
    rw [← List.map_take, ← List.map_drop, ← List.map_append, ← List.map_append]
    congr 1
    rw [List.take_append_of_le_length (by omega), List.drop_append_of_le_length (by omega), hxd]
    simp
  obtain ⟨ad, had, hsrc⟩ : ∃ ad, adv (some ⟨q, 0, none⟩) c (j + 1) 1 = some ad ∧ Cs w1 (some ad) (ints (xs.drop (j + 1))) := by
    by_cases hlast : j + 1 = xs.length
    · have hnil : ints (xs.drop (j + 1)) = [] := by rw [List.drop_eq_nil_of_le (by omega)]; rfl
      rw [hnil]
      unfold adv
      split
      · exact ⟨_, rfl, fun i v h => by simp at h⟩
      · exact ⟨_, rfl, fun i v h => by simp at h⟩
    · refine ⟨⟨q, j + 1, none⟩, ?_, fun i v hi => ⟨_, rfl, ?_⟩⟩
      · rw [adv_add _ _ xs.length _ _ _ (by omega)]
        simp
      · rw [add_mk, hb1.cell, ← hi]
        unfold ints
        rw [List.getElem?_map, List.getElem?_map, List.getElem?_drop, List.getElem?_append_left (by
          have := (List.getElem?_eq_some_iff.1 hi).1
          rw [hnews] at this
          omega)]
  rw [had]
  refine app_room (size := 1) Tryz.underlying157 intE hb1 hsrc (by rw [hnews, Nat.mul_one]) (ints_one _) (by omega) (by rw [hnews, hle]; omega) fun w2 i2 k2 => ?_
  rw [hsp] at k2
  have ez : IntKind.i64.wrap (xs.length : Int) = (xs.length : Int) := w64 (by omega) (by omega)
  have hjm : j + (xs.length - (j + 1)) = xs.length - 1 := by omega
  rw [hjm]
  have q0 : (0 : Int) ≤ ((xs.length - 1 : Nat) : Int) := by omega
  have q1 : ((xs.length - 1 : Nat) : Int) ≤ (xs.length : Int) := by omega
  have q2 : (0 : Int) ≤ (xs.length : Int) := by omega
  have q3 : xs.length - 1 ≤ xs.length := by omega
  simp -implicitDefEqProofs (maxSteps := 1000000) only [↓zvN, zvU, ↓zvE, zvM, init, one, Value.cells, simprocAttr, tyF, p_nil, q0, q1, q2, q3, g4, Int.toNat_natCast]
  have ha2 : adv (some ⟨q, 0, none⟩) c (xs.length - 1) 1 = some ⟨q, xs.length - 1, none⟩ := by
    rw [adv_add _ _ xs.length _ _ _ (by omega)]
    simp
  have hel : (xs.eraseIdx j).length = xs.length - 1 := List.length_eraseIdx_of_lt hj
  refine ⟨by omega, ?_⟩
  rw [ha2, show xs.length - (xs.length - 1) = 1 by omega]
  refine clear_one Tryz.underlying157 intE k2 (by rw [ints_len, List.length_append, hel, List.length_cons]; omega) fun w3 i3 k3 => ?_
  have hse : (ints (xs.eraseIdx j ++ y :: rest)).set (xs.length - 1) (.int .i64 0) = ints (xs.eraseIdx j ++ 0 :: rest) := by
    unfold ints
    rw [List.map_append, List.map_append, List.set_append_right _ _ (by rw [List.length_map, hel]; omega), List.length_map, hel, Nat.sub_self]
    rfl
  rw [hse] at k3
  simp -implicitDefEqProofs (maxSteps := 1000000) only [↓zvN, zvU, ↓zvE, zvM, init, one, Value.cells, simprocAttr, tyF]
  exact ⟨k3, ((But.of_more hm1).trans (But.of_wr i2)).trans (But.of_wr i3)⟩
structure TuA where
  t : Nat
  tb : Nat
  ty : Nat
def TuA.own (a : TuA) (k : Nat) : Prop := k = a.t ∨ k = a.tb ∨ k = a.ty
def natI (l : List Nat) : List Int := l.map fun k : Nat => (k : Int)
theorem natI_get {l : List Nat} {j c : Nat} (h : l[j]? = some c) : (natI l)[j]? = some (c : Int) := by unfold natI; rw [List.getElem?_map, h]; rfl
structure TurnsW (w : World) (a : TuA) (q : Int) (l : List TurnM) (line : List Nat) : Prop where
  blk : Blk w a.t 233 [.int .i64 q, .slice (some ⟨a.tb, 0, none⟩) l.length l.length, .slice (some ⟨a.ty, 0, none⟩) line.length l.length]
  row : Blk w a.tb 272 (l.flatMap TurnM.cells)
  ln : ∃ rest : List Int, line.length + rest.length = l.length ∧ Blk w a.ty 3 (ints (natI line ++ rest))
  nd : line.Nodup
  mem : ∀ c, c ∈ line ↔ ∃ x, l[c]? = some x ∧ x.awake = true
  ll : l.length ≤ 129
  qb : 1 ≤ q ∧ q ≤ 1073741824
  db : ∀ x ∈ l, 0 ≤ x.deficit ∧ x.deficit ≤ 1073760000 ∧ (x.fresh = true → x.deficit ≤ 9216)
theorem TurnsW.mod {w w' : World} {S : Nat → Prop} {a : TuA} {q : Int} {l : List TurnM} {line : List Nat} (h : TurnsW w a q l line) (hm : Mod S w w') (ho : ∀ k, a.own k → ¬ S k) : TurnsW w' a q l line := by
  obtain ⟨rest, h1, h2⟩ := h.ln
  exact ⟨hm.blk h.blk (ho _ (.inl rfl)), hm.blk h.row (ho _ (.inr (.inl rfl))), ⟨rest, h1, hm.blk h2 (ho _ (.inr (.inr rfl)))⟩, h.nd, h.mem, h.ll, h.qb, h.db⟩
theorem TurnsW.sep {w : World} {a : TuA} {q : Int} {l : List TurnM} {line : List Nat} (h : TurnsW w a q l line) : a.t ≠ a.tb ∧ a.t ≠ a.ty ∧ a.tb ≠ a.ty := by
  obtain ⟨rest, h1, h2⟩ := h.ln
  refine ⟨?_, ?_, ?_⟩
  · intro e
    have h3 := h.blk
    rw [e] at h3
    exact absurd (blk_ty h3 h.row) (by decide)
  · intro e
    have h3 := h.blk
    rw [e] at h3
    exact absurd (blk_ty h3 h2) (by decide)
  · intro e
    have h3 := h.row
    rw [e] at h3
    exact absurd (blk_ty h3 h2) (by decide)
theorem TurnsW.c1 {w : World} {a : TuA} {q : Int} {l : List TurnM} {line : List Nat} (h : TurnsW w a q l line) : w.cell? ⟨a.t, 1, none⟩ = some (.slice (some ⟨a.tb, 0, none⟩) l.length l.length) := by rw [h.blk.cell]; rfl
theorem TurnsW.aw {w : World} {a : TuA} {q : Int} {l : List TurnM} {line : List Nat} (h : TurnsW w a q l line) {c : Nat} {x : TurnM} (hx : l[c]? = some x) : w.cell? ⟨a.tb, c * 3, none⟩ = some (.bool x.awake) := by
  rw [blk_elem0 h.row (fun m _ => TurnM.cells_len m) hx (by decide)]; rfl
theorem TurnM.one (x : TurnM) : ∀ u ∈ x.cells, u.oneCell' = true := by intro u hu; simp [TurnM.cells] at hu; rcases hu with rfl | rfl | rfl <;> rfl
theorem turns_has (w : World) (a : TuA) (q : Int) (l : List TurnM) (line : List Nat) (h : TurnsW w a q l line) (c : Int) :
    Ret Tryz.prog 172 #[.pointer (some ⟨a.t, 0, none⟩), .int .i64 c] w fun v w' => v = .bool (decide (0 ≤ c ∧ c < l.length)) ∧ w' = w := by
  refine ret_of Tryz.func172 rfl (by kernel_rfl) (Nat.le_of_ble_eq_true (by kernel_rfl)) ?_
  by_cases h0 : 0 ≤ c
  · by_cases h1 : c < (l.length : Int)
    · rw [decide_eq_true (show 0 ≤ c ∧ c < (l.length : Int) from ⟨h0, h1⟩)]
      simp -implicitDefEqProofs (maxSteps := 1000000) only [↓zvN, zvU, ↓zvE, zvM, init, one, Value.cells, simprocAttr, tyF, h0, h1, h.c1]
    · rw [decide_eq_false (fun h => h1 h.2)]
      simp -implicitDefEqProofs (maxSteps := 1000000) only [↓zvN, zvU, ↓zvE, zvM, init, one, Value.cells, simprocAttr, tyF, h0, h1, h.c1]
  · rw [decide_eq_false (fun h => h0 h.1)]
    simp -implicitDefEqProofs (maxSteps := 1000000) only [↓zvN, zvU, ↓zvE, zvM, init, one, Value.cells, simprocAttr, tyF, h0]
theorem turns_wake_no (w : World) (a : TuA) (q : Int) (l : List TurnM) (line : List Nat) (h : TurnsW w a q l line) {c : Nat} {x : TurnM} (hx : l[c]? = some x) (ha : x.awake = true) :
    Ret Tryz.prog 86 #[.pointer (some ⟨a.t, 0, none⟩), .int .i64 c] w fun v w' => v = .bool false ∧ w' = w := by
  refine ret_of Tryz.func86 rfl (by kernel_rfl) (Nat.le_of_ble_eq_true (by kernel_rfl)) ?_
  have hcl : c < l.length := (List.getElem?_eq_some_iff.1 hx).1
  have g0 : (0 : Int) ≤ (c : Int) := by omega
  have g1 : (c : Int) < (l.length : Int) := by omega
  have ca := h.aw hx
  rw [ha] at ca
  simp -implicitDefEqProofs (maxSteps := 1000000) only [↓zvN, zvU, ↓zvE, zvM, init, one, Value.cells, simprocAttr, tyF]
  refine call_ok Tryz.call172 (turns_has w a q l line h c) ?_
  rintro _ w1 ⟨rfl, rfl⟩
  rw [decide_eq_true (show 0 ≤ (c : Int) ∧ (c : Int) < (l.length : Int) from ⟨g0, g1⟩)]
  simp -implicitDefEqProofs (maxSteps := 1000000) only [↓zvN, zvU, ↓zvE, zvM, init, one, Value.cells, simprocAttr, tyF, h.c1, g0, g1, Int.toNat_natCast, ca]
theorem nodup_bound : ∀ (n : Nat) (l : List Nat), l.Nodup → (∀ d ∈ l, d < n) → l.length ≤ n
  | 0, l, _, hl => by
    cases l with
    | nil => exact Nat.le_refl _
    | cons a l => exact absurd (hl a (by simp)) (by omega)
  | n + 1, l, hn, hl => by
    by_cases hm : n ∈ l
    · have h1 := nodup_bound n (l.erase n) (hn.erase n) (fun d hd => by
        have hd' := (hn.mem_erase_iff).1 hd
        have := hl d hd'.2
        have := hd'.1
        omega)
      rw [List.length_erase_of_mem hm] at h1
      omega
    · have h1 := nodup_bound n l hn (fun d hd => by
        have := hl d hd
        have : d ≠ n := fun e => hm (by rw [← e]; exact hd)
        omega)
      omega
theorem line_lt {w : World} {a : TuA} {q : Int} {l : List TurnM} {line : List Nat} (h : TurnsW w a q l line) {c : Nat} {x : TurnM} (hx : l[c]? = some x) (ha : x.awake = false) : line.length < l.length := by
  have h1 : (c :: line).Nodup := by
    rw [List.nodup_cons]
    refine ⟨fun hm => ?_, h.nd⟩
    obtain ⟨y, hy, hya⟩ := (h.mem c).1 hm
    rw [hx] at hy
    cases hy
    rw [ha] at hya
    cases hya
  have h2 : ∀ d ∈ c :: line, d < l.length := by
    intro d hd
    rcases List.mem_cons.1 hd with rfl | hd
    · exact (List.getElem?_eq_some_iff.1 hx).1
    · obtain ⟨y, hy, _⟩ := (h.mem d).1 hd
      exact (List.getElem?_eq_some_iff.1 hy).1
  have h3 := nodup_bound l.length (c :: line) h1 h2
  simp at h3
  omega
theorem turns_wake (w : World) (a : TuA) (q : Int) (l : List TurnM) (line : List Nat) (h : TurnsW w a q l line) {c : Nat} {x : TurnM} (hx : l[c]? = some x) (ha : x.awake = false) :
    Ret Tryz.prog 86 #[.pointer (some ⟨a.t, 0, none⟩), .int .i64 c] w fun v w' => v = .bool true ∧ TurnsW w' a q (l.set c ⟨true, true, 0⟩) (line ++ [c]) ∧ Mod a.own w w' := by
  refine ret_of Tryz.func86 rfl (by kernel_rfl) (Nat.le_of_ble_eq_true (by kernel_rfl)) ?_
  have hcl : c < l.length := (List.getElem?_eq_some_iff.1 hx).1
  have g0 : (0 : Int) ≤ (c : Int) := by omega
  have g1 : (c : Int) < (l.length : Int) := by omega
  have hlt := line_lt h hx ha
  obtain ⟨rest, hrl, hln⟩ := h.ln
  obtain ⟨n1, n2, n3⟩ := h.sep
  have ca := h.aw hx
  rw [ha] at ca
  have hll := h.ll
  simp -implicitDefEqProofs (maxSteps := 1000000) only [↓zvN, zvU, ↓zvE, zvM, init, one, Value.cells, simprocAttr, tyF]
  refine call_ok Tryz.call172 (turns_has w a q l line h c) ?_
  rintro _ w1 ⟨rfl, rfl⟩
  rw [decide_eq_true (show 0 ≤ (c : Int) ∧ (c : Int) < (l.length : Int) from ⟨g0, g1⟩)]
  have bt := build_of (P := Tryz.prog) (T := 272) (parts := #[(0, .bool true), (1, .bool true)]) (TurnM.mk true true 0).cells (by kernel_rfl) zer272 (by kernel_rfl) w1
  simp -implicitDefEqProofs (maxSteps := 1000000) only [↓zvN, zvU, ↓zvE, zvM, init, one, Value.cells, simprocAttr, tyF, h.c1, g0, g1, Int.toNat_natCast, ca, bt]
  refine blk_setRow h.row (fun m _ => TurnM.cells_len m) hcl (m' := ⟨true, true, 0⟩) rfl (TurnM.one _) fun w2 i2 k2 => ?_
  rw [s2_undef]
  have b2 := i2.blk h.blk n1
  have l2 := i2.blk hln (fun e => n3 e.symm)
  have c22 : w2.cell? ⟨a.t, 2, none⟩ = some (.slice (some ⟨a.ty, 0, none⟩) line.length l.length) := by rw [b2.cell]; rfl
  simp -implicitDefEqProofs (maxSteps := 1000000) only [↓zvN, zvU, ↓zvE, zvM, init, one, Value.cells, simprocAttr, tyF, c22]
  refine bslice (z := .int .i64 0) (cells := #[.int .i64 c]) Tryz.underlying157 intE (by omega) (by have := bcells_list (z := .int .i64 0) [.int .i64 (c : Int)] (by intro v hv; simp at hv; subst hv; rfl); exact this) ?_
  have hm3 := more_alloc w2 (.cells #[.int .i64 (c : Int)] 3)
  have hb3 := Blk.new w2 3 #[.int .i64 (c : Int)]
  obtain ⟨w3, hw3⟩ : ∃ w3, w2.alloc (.cells #[.int .i64 (c : Int)] 3) = w3 := ⟨_, rfl⟩
  rw [hw3] at hm3 hb3 ⊢
  clear hw3
  simp -implicitDefEqProofs (maxSteps := 1000000) only [↓zvN, zvU, ↓zvE, zvM, init, one, Value.cells, simprocAttr, tyF]
  have hnl : (natI line).length = line.length := by simp [natI]
  refine app_room (size := 1) (m := 1) (news := [.int .i64 (c : Int)]) Tryz.underlying157 intE (l2.more hm3) hb3.cs rfl (by intro u hu; simp at hu; subst hu; rfl) (by omega) (by rw [ints_len, List.length_append, hnl]; simp; omega) fun w4 i4 k4 => ?_
  have hsp : splice (ints (natI line ++ rest)) (line.length * 1) [.int .i64 (c : Int)] = ints (natI (line ++ [c]) ++ rest.drop 1) := by
    rw [splice_eq _ _ _ (by rw [ints_len, List.length_append, hnl]; simp; omega), Nat.mul_one]
    unfold ints
    rw [List.map_append, List.take_append_of_le_length (by rw [List.length_map, hnl]; exact Nat.le_refl _), List.take_of_length_le (by rw [List.length_map, hnl]; exact Nat.le_refl _), List.drop_append, List.length_map, hnl, List.drop_eq_nil_of_le (by rw [List.length_map, hnl]; simp)]
    simp [natI, List.map_drop]
  rw [hsp] at k4
  have b4 := i4.blk (b2.more hm3) n2
  have r4 := i4.blk (k2.more hm3) n3
  simp -implicitDefEqProofs (maxSteps := 1000000) only [↓zvN, zvU, ↓zvE, zvM, init, one, Value.cells, simprocAttr, tyF]
  refine st_cell (i := 2) (v := .slice (some ⟨a.ty, 0, none⟩) (line.length + 1) l.length) b4 (by simp) rfl fun w5 i5 k5 => ?_
  rw [s2_undef]
  simp -implicitDefEqProofs (maxSteps := 1000000) only [↓zvN, zvU, ↓zvE, zvM, init, one, Value.cells, simprocAttr, tyF]
  have mm : Mod a.own w1 w5 := ((((Mod.of_wr i2 (.inr (.inl rfl))).trans (Mod.of_more hm3)).trans (Mod.of_wr i4 (.inr (.inr rfl)))).trans (Mod.of_wr i5 (.inl rfl)))
  refine ⟨⟨by rw [List.length_set, List.length_append]; exact k5, i5.blk r4 (fun e => n1 e.symm), ⟨rest.drop 1, by rw [List.length_set, List.length_append, List.length_drop]; simp; omega, i5.blk k4 (fun e => n2 e.symm)⟩, ?_, ?_, by rw [List.length_set]; exact hll, h.qb, ?_⟩, mm⟩
  · rw [List.nodup_append]
    refine ⟨h.nd, by simp, ?_⟩
    intro d hd e he hde
    simp at he
    subst hde he
    obtain ⟨y, hy, hya⟩ := (h.mem d).1 hd
    rw [hx] at hy
    cases hy
    rw [ha] at hya
    cases hya
  · intro d
    rw [List.mem_append, h.mem d]
    by_cases e : c = d
    · subst e
      rw [List.getElem?_set_self hcl]
      simp
    · rw [List.getElem?_set_ne e]
      constructor
      · rintro (h1 | h1)
        · exact h1
        · simp at h1; exact absurd h1.symm e
      · exact .inl
  · intro u hu
    rcases List.mem_or_eq_of_mem_set hu with h2 | h2
    · exact h.db u h2
    · rw [h2]; exact ⟨by decide, by decide, fun _ => by decide⟩
theorem natI_era : ∀ (l : List Nat) (j : Nat), (natI l).eraseIdx j = natI (l.eraseIdx j)
  | [], j => by simp [natI]
  | x :: l, 0 => rfl
  | x :: l, j + 1 => by
    have := natI_era l j
    simp only [natI, List.map_cons, List.eraseIdx_cons_succ] at this ⊢
    rw [this]
theorem erase_idx : ∀ {l : List Nat} {c j : Nat}, l.Nodup → l[j]? = some c → l.erase c = l.eraseIdx j
  | [], c, j, _, h => by cases h
  | x :: l, c, 0, hn, h => by
    simp at h
    subst h
    simp
  | x :: l, c, j + 1, hn, h => by
    have h' : l[j]? = some c := by simpa using h
    have hx : x ≠ c := by
      rintro rfl
      exact (List.nodup_cons.1 hn).1 (List.mem_of_getElem? h')
    rw [List.erase_cons_tail (by simpa using hx), List.eraseIdx_cons_succ, erase_idx (List.nodup_cons.1 hn).2 h']
theorem turns_sleep (w : World) (a : TuA) (q : Int) (l : List TurnM) (line : List Nat) (h : TurnsW w a q l line) {c : Nat} {x : TurnM} (hx : l[c]? = some x) (ha : x.awake = true) :
    Ret Tryz.prog 87 #[.pointer (some ⟨a.t, 0, none⟩), .int .i64 c] w fun v w' => v = .bool true ∧ TurnsW w' a q (l.set c ⟨false, false, 0⟩) (line.erase c) ∧ Mod a.own w w' := by
  refine ret_of Tryz.func87 rfl (by kernel_rfl) (Nat.le_of_ble_eq_true (by kernel_rfl)) ?_
  have hcl : c < l.length := (List.getElem?_eq_some_iff.1 hx).1
  have g0 : (0 : Int) ≤ (c : Int) := by omega
  have g1 : (c : Int) < (l.length : Int) := by omega
  obtain ⟨rest, hrl, hln⟩ := h.ln
  obtain ⟨n1, n2, n3⟩ := h.sep
  have ca := h.aw hx
  rw [ha] at ca
  have hll := h.ll
  obtain ⟨j, hj⟩ := List.getElem?_of_mem ((h.mem c).2 ⟨x, hx, ha⟩)
  have hjl : j < line.length := (List.getElem?_eq_some_iff.1 hj).1
  have hnl : (natI line).length = line.length := by simp [natI]
  have her := erase_idx h.nd hj
  simp -implicitDefEqProofs (maxSteps := 1000000) only [↓zvN, zvU, ↓zvE, zvM, init, one, Value.cells, simprocAttr, tyF]
  refine call_ok Tryz.call172 (turns_has w a q l line h c) ?_
  rintro _ w1 ⟨rfl, rfl⟩
  rw [decide_eq_true (show 0 ≤ (c : Int) ∧ (c : Int) < (l.length : Int) from ⟨g0, g1⟩)]
  have bt := build_of (P := Tryz.prog) (T := 272) (parts := #[]) (TurnM.mk false false 0).cells (by kernel_rfl) zer272 (by kernel_rfl) w1
  simp -implicitDefEqProofs (maxSteps := 1000000) only [↓zvN, zvU, ↓zvE, zvM, init, one, Value.cells, simprocAttr, tyF, h.c1, g0, g1, Int.toNat_natCast, ca, bt]
  refine blk_setRow h.row (fun m _ => TurnM.cells_len m) hcl (m' := ⟨false, false, 0⟩) rfl (TurnM.one _) fun w2 i2 k2 => ?_
  rw [s2_undef]
  have b2 := i2.blk h.blk n1
  have l2 := i2.blk hln (fun e => n3 e.symm)
  have c22 : w2.cell? ⟨a.t, 2, none⟩ = some (.slice (some ⟨a.ty, 0, none⟩) line.length l.length) := by rw [b2.cell]; rfl
  simp -implicitDefEqProofs (maxSteps := 1000000) only [↓zvN, zvU, ↓zvE, zvM, init, one, Value.cells, simprocAttr, tyF, c22]
  refine call_ok Tryz.call173 (slices_index w2 a.ty line.length l.length (natI line) rest c l2 hnl.symm (natI_get hj) (fun i hi e => by
    have hil : i < line.length := by omega
    rw [natI_get (List.getElem?_eq_getElem hil)] at e
    have e1 : line[i] = c := by have := Option.some.inj e; omega
    have := (List.getElem?_inj hil h.nd).1 ((List.getElem?_eq_getElem hil).trans (by rw [e1, hj]))
    omega) (by omega)) ?_
  rintro _ w3 ⟨rfl, rfl⟩
  have ej : IntKind.i64.wrap ((j : Int) + 1) = ((j + 1 : Nat) : Int) := w64 (by omega) (by omega)
  simp -implicitDefEqProofs (maxSteps := 1000000) only [↓zvN, zvU, ↓zvE, zvM, init, one, Value.cells, simprocAttr, tyF, c22, ej]
  refine call_ok Tryz.call174 (slices_delete w3 a.ty line.length l.length (natI line) rest l2 hnl.symm (j := j) (by omega) (by omega) (by omega)) ?_
  rintro _ w4 ⟨rfl, k4, i4⟩
  rw [natI_era, ← her] at k4
  have b4 := i4.blk b2 n2
  have r4 := i4.blk k2 n3
  simp -implicitDefEqProofs (maxSteps := 1000000) only [↓zvN, zvU, ↓zvE, zvM, init, one, Value.cells, simprocAttr, tyF]
  have hel : (line.erase c).length = line.length - 1 := by rw [her]; exact List.length_eraseIdx_of_lt hjl
  refine st_cell (i := 2) (v := .slice (some ⟨a.ty, 0, none⟩) (line.length - 1) l.length) b4 (by simp) rfl fun w5 i5 k5 => ?_
  rw [s2_undef]
  simp -implicitDefEqProofs (maxSteps := 1000000) only [↓zvN, zvU, ↓zvE, zvM, init, one, Value.cells, simprocAttr, tyF]
  have m34 : Mod a.own w3 w4 := i4.mono fun k _ hk => .inr (.inr hk)
  have mm : Mod a.own w1 w5 := ((Mod.of_wr i2 (.inr (.inl rfl))).trans m34).trans (Mod.of_wr i5 (.inl rfl))
  refine ⟨⟨by rw [List.length_set, hel]; exact k5, i5.blk r4 (fun e => n1 e.symm), ⟨0 :: rest, by rw [List.length_set, hel, List.length_cons]; omega, i5.blk k4 (fun e => n2 e.symm)⟩, h.nd.erase c, ?_, by rw [List.length_set]; exact hll, h.qb, ?_⟩, mm⟩
  · intro d
    rw [h.nd.mem_erase_iff, h.mem d]
    by_cases e : c = d
    · subst e
      rw [List.getElem?_set_self hcl]
      simp
    · rw [List.getElem?_set_ne e]
      exact ⟨fun h => h.2, fun h => ⟨fun e2 => e e2.symm, h⟩⟩
  · intro u hu
    rcases List.mem_or_eq_of_mem_set hu with h2 | h2
    · exact h.db u h2
    · rw [h2]; exact ⟨by decide, by decide, fun e => by cases e⟩
end Go.Proofs.YtofhbonnojooeaaGreat

