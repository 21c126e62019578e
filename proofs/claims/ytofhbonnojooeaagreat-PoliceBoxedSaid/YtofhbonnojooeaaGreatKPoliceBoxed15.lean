/-
  Texts that the law stands on, part 15.
-/
import Derived.Test.YtofhbonnojooeaaGreatKPoliceBoxed14
namespace Go.Proofs.YtofhbonnojooeaaGreat
open Go Go.RowKit Go.Proofs.RV
set_option linter.unusedSimpArgs false
set_option linter.unusedVariables false
set_option maxRecDepth 10000
set_option maxHeartbeats 4000000
theorem splice_left (A R vs : List Value) (j : Nat) (h : j + vs.length ≤ A.length) : splice (A ++ R) j vs = splice A j vs ++ R := by
  rw [splice_eq _ _ _ (by rw [List.length_append]; omega), splice_eq _ _ _ h, List.take_append_of_le_length (by omega), List.drop_append_of_le_length (by omega)]
  simp only [List.append_assoc]
theorem SketchW.ne {w : World} {q b cap : Nat} {sl : List SlotM} {total : Int} (h : SketchW w q b cap sl total) : q ≠ b := by
  rintro rfl
  obtain ⟨rest, h1, h2⟩ := h.row
  exact absurd (blk_ty h.blk h1) (by decide)
theorem SketchW.rowl {sl : List SlotM} (h : ∀ x ∈ sl, x.p.addr.length = 7) : (sl.flatMap SlotM.cells).length = sl.length * 10 := row_len sl fun x hx => SlotM.len (h x hx)
def SlotOk (x : SlotM) : Prop := x.p.addr.length = 7 ∧ 0 ≤ x.count ∧ x.count ≤ 4611686018427387904 ∧ 0 ≤ x.err ∧ x.err ≤ x.count
theorem SketchW.okA {w : World} {q b cap : Nat} {sl : List SlotM} {total : Int} (h : SketchW w q b cap sl total) {i : Nat} {m' : SlotM} (hm : SlotOk m') : (∀ x ∈ sl.set i m', x.p.addr.length = 7) ∧ ∀ x ∈ sl.set i m', 0 ≤ x.count ∧ x.count ≤ 4611686018427387904 ∧ 0 ≤ x.err ∧ x.err ≤ x.count := by
  constructor
  · intro x hx
    rcases List.mem_or_eq_of_mem_set hx with h2 | h2
    · exact h.plen x h2
    · rw [h2]; exact hm.1
  · intro x hx
    rcases List.mem_or_eq_of_mem_set hx with h2 | h2
    · exact h.cb x h2
    · rw [h2]; exact hm.2
theorem SketchW.setRow {w : World} {q b cap : Nat} {sl : List SlotM} {total : Int} {K : World → Prop} (h : SketchW w q b cap sl total) {i : Nat} (hi : i < sl.length) {m' : SlotM} (hm : SlotOk m')
    (hK : ∀ w', Wr b w w' → SketchW w' q b cap (sl.set i m') total → K w') : stRow 10 m'.cells.toArray ⟨b, i * 10, none⟩ w K := by
  obtain ⟨rest, h1, h2⟩ := h.row
  have hl := SketchW.rowl h.plen
  have hml := SlotM.len hm.1
  refine st_row h1 (by simpa using hml) (by rw [List.length_append, hl]; omega) (by simpa using SlotM.one m') fun w' i' k' => hK w' i' ?_
  rw [List.toList_toArray, splice_left _ _ _ _ (by rw [hml, hl]; omega), row_set sl h.lens i m' hml hi] at k'
  obtain ⟨g1, g2⟩ := h.okA (i := i) hm
  exact ⟨by rw [List.length_set]; exact i'.blk h.blk h.ne, ⟨rest, k', by rw [List.length_set]; exact h2⟩, g1, h.capr, by rw [List.length_set]; exact h.le, g2⟩
theorem SketchW.setCnt {w : World} {q b cap : Nat} {sl : List SlotM} {total : Int} {K : World → Prop} (h : SketchW w q b cap sl total) {i : Nat} {x : SlotM} (hx : sl[i]? = some x) {c : Int} (hc : 0 ≤ c ∧ c ≤ 4611686018427387904 ∧ x.err ≤ c)
    (hK : ∀ w', Wr b w w' → SketchW w' q b cap (sl.set i { x with count := c }) total → K w') : stCell (.int .i64 c) ⟨b, i * 10 + 8, none⟩ w K := by
  obtain ⟨rest, h1, h2⟩ := h.row
  have hi : i < sl.length := (List.getElem?_eq_some_iff.1 hx).1
  have hl := SketchW.rowl h.plen
  have hxl := h.plen x (List.mem_of_getElem? hx)
  have hxc := h.cb x (List.mem_of_getElem? hx)
  have hm : SlotOk { x with count := c } := ⟨hxl, hc.1, hc.2.1, hxc.2.2.1, hc.2.2⟩
  refine st_cell h1 (by rw [List.length_append, hl]; omega) rfl fun w' i' k' => hK w' i' ?_
  have hset : (sl.flatMap SlotM.cells ++ rest).set (i * 10 + 8) (.int .i64 c) = (sl.set i { x with count := c }).flatMap SlotM.cells ++ rest := by
    rw [List.set_append_left _ _ (by rw [hl]; omega)]
    have hp := row_part (E := SlotM.cells) (vs := [.int .i64 c]) (m' := { x with count := c }) h.lens hx (j := 8) (by simp) (by
      rw [set_splice _ _ _ (by rw [SlotM.len hxl]; decide)]
      have : x.p.cells.length = 8 := by simp [PrefM.cells, hxl]
      unfold SlotM.cells
      rw [List.set_append_right _ _ (by omega), this]
      rfl)
    rw [set_splice _ _ _ (by rw [hl]; omega)] at hp
    rw [hp]
  rw [hset] at k'
  obtain ⟨g1, g2⟩ := h.okA (i := i) hm
  exact ⟨by rw [List.length_set]; exact i'.blk h.blk h.ne, ⟨rest, k', by rw [List.length_set]; exact h2⟩, g1, h.capr, by rw [List.length_set]; exact h.le, g2⟩
open Classical in
noncomputable def seatS (cap : Nat) (sl : List SlotM) (p : PrefM) : List SlotM × Nat :=
  if 0 ≤ slotIdx p sl 0 then (sl, (slotIdx p sl 0).toNat) else if sl.length < cap then (sl ++ [⟨p, 0, 0⟩], sl.length) else (sl.set (leastM sl sl.length) ⟨p, cntS sl (leastM sl sl.length), cntS sl (leastM sl sl.length)⟩, leastM sl sl.length)
noncomputable def slotA (cap : Nat) (sl : List SlotM) (p : PrefM) (n : Int) : SlotM :=
  let x := (seatS cap sl p).1.getD (seatS cap sl p).2 slotZ
  { x with count := addM x.count (countM n) }
noncomputable def addS (cap : Nat) (sl : List SlotM) (p : PrefM) (n : Int) : List SlotM := (seatS cap sl p).1.set (seatS cap sl p).2 (slotA cap sl p n)
theorem slotIdx_range (p : PrefM) : ∀ (l : List SlotM) (k : Nat), slotIdx p l k = -1 ∨ ((k : Int) ≤ slotIdx p l k ∧ slotIdx p l k < k + l.length)
  | [], k => .inl rfl
  | x :: l, k => by
    unfold slotIdx
    by_cases e : x.p = p
    · rw [if_pos e]; right; simp; omega
    · rw [if_neg e]
      rcases slotIdx_range p l (k + 1) with h | h
      · exact .inl h
      · right; simp; omega
def duo2 (q b : Nat) (k : Nat) : Prop := k = q ∨ k = b
theorem sketch_reset (w : World) (q b cap : Nat) (sl : List SlotM) (total : Int) (h : SketchW w q b cap sl total) :
    Ret Tryz.prog 133 #[.pointer (some ⟨q, 0, none⟩)] w fun v w' => v = .tuple #[] ∧ SketchW w' q b cap [] 0 ∧ Mod (duo2 q b) w w' := by
  refine ret_of Tryz.func133 rfl (by kernel_rfl) (Nat.le_of_ble_eq_true (by kernel_rfl)) ?_
  have hle := h.le
  have hcap := h.capr
  obtain ⟨rest, h1, h2⟩ := h.row
  have c0 : w.cell? ⟨q, 0, none⟩ = some (.slice (some ⟨b, 0, none⟩) sl.length cap) := by rw [h.blk.cell]; rfl
  have g0 : (0 : Int) ≤ (cap : Int) := by omega
  have g1 : ¬ (cap : Int) = 0 := by omega
  have g2 : ¬ cap = 0 := by omega
  simp -implicitDefEqProofs (maxSteps := 1000000) only [↓zvN, zvU, ↓zvE, zvM, init, one, Value.cells, simprocAttr, tyF, c0, g0, g1, g2]
  refine ⟨by omega, ?_⟩
  refine st_cell (i := 0) (v := .slice (some ⟨b, 0, none⟩) 0 cap) h.blk (by simp) rfl fun w2 i2 k2 => ?_
  rw [s2_undef]
  simp -implicitDefEqProofs (maxSteps := 1000000) only [↓zvN, zvU, ↓zvE, zvM, init, one, Value.cells, simprocAttr, tyF]
  refine st_cell (i := 1) (v := .int .i64 0) k2 (by simp) rfl fun w3 i3 k3 => ?_
  rw [s2_undef]
  simp -implicitDefEqProofs (maxSteps := 1000000) only [↓zvN, zvU, ↓zvE, zvM, init, one, Value.cells, simprocAttr, tyF]
  have hne := h.ne
  have r3 := i3.blk (i2.blk h1 (fun e => hne e.symm)) (fun e => hne e.symm)
  exact ⟨⟨k3, ⟨sl.flatMap SlotM.cells ++ rest, r3, by rw [List.length_append, SketchW.rowl h.plen]; simp; omega⟩, by simp, hcap, by simp, by simp⟩, (Mod.of_wr i2 (.inl rfl)).trans (Mod.of_wr i3 (.inl rfl))⟩
theorem countM_id {a : Int} (h : 0 ≤ a ∧ a ≤ 4611686018427387904) : countM a = a := by unfold countM; omega
theorem addM_le {a n : Int} (h : 0 ≤ a ∧ a ≤ 4611686018427387904) : a ≤ addM a n := by
  have := countM_range n
  unfold addM
  rw [countM_id h]
  omega
theorem SketchW.wr {w w' : World} {q b cap z : Nat} {sl : List SlotM} {total : Int} (h : SketchW w q b cap sl total) (i : Wr z w w') (h1 : q ≠ z) (h2 : b ≠ z) : SketchW w' q b cap sl total := by
  obtain ⟨rest, g1, g2⟩ := h.row
  exact ⟨i.blk h.blk h1, ⟨rest, i.blk g1 h2, g2⟩, h.plen, h.capr, h.le, h.cb⟩
theorem slot_build (p : PrefM) (c e : Int) (hp : p.addr.length = 7) (w0 : World) (K : Value → Prop) :
    pureP Tryz.prog (Instr.build 253 #[(0, .agg p.cells.toArray), (1, .int .i64 c), (2, .int .i64 e)]) K = K (.agg (SlotM.mk p c e).cells.toArray) := by
  have h8 : p.cells.length = 8 := by simp [PrefM.cells, hp]
  have pl : PlacesOk (placeOf Tryz.prog 253) 0 0 ([p.cells, [.int .i64 c], [.int .i64 e]]) := by
    simp only [PlacesOk, placeOf, Tryz.underlying253, List.getElem?_toArray, List.getElem?_cons_zero, List.getElem?_cons_succ, Option.map_some, cells2, cells37, List.length_cons, h8, List.length_nil, Nat.reduceAdd, Nat.zero_add, and_self]
  have b := build_all (P := Tryz.prog) (T := 253) [.agg p.cells.toArray, .int .i64 c, .int .i64 e] (out := (SlotM.mk p c e).cells) (by kernel_rfl) zerSlot (by simpa [Value.cells] using pl)
    (by simp [Value.cells, SlotM.cells, slotZ, prefZ, noBytes, h8, PrefM.cells, hp]) (by simp [Value.cells, SlotM.cells]) w0 K
  simp only [pairs, Nat.zero_add, Nat.reduceAdd] at b
  exact b
theorem slot_build1 (p : PrefM) (hp : p.addr.length = 7) (w0 : World) (K : Value → Prop) :
    pureP Tryz.prog (Instr.build 253 #[(0, .agg p.cells.toArray)]) K = K (.agg (SlotM.mk p 0 0).cells.toArray) := by
  have h8 : p.cells.length = 8 := by simp [PrefM.cells, hp]
  refine build_of (SlotM.mk p 0 0).cells (by kernel_rfl) zerSlot ?_ w0 K
  have z : (Value.agg slotZ.cells.toArray).cells.toList = [] ++ (prefZ.cells ++ [.int .i64 0, .int .i64 0]) := rfl
  refine laid_step (a := []) (vs := p.cells) rfl z (by simp only [placeOf, Tryz.underlying253, List.getElem?_toArray, List.getElem?_cons_zero, Option.map_some, cells37]; rfl) (by rw [h8]; rfl) ?_
  simp [laid, SlotM.cells]
theorem sketch_add (w : World) (q b cap : Nat) (sl : List SlotM) (total : Int) (h : SketchW w q b cap sl total) (p : PrefM) (hp : p.addr.length = 7) (n : Int) :
    Ret Tryz.prog 134 #[.pointer (some ⟨q, 0, none⟩), .agg p.cells.toArray, .int .i64 n] w fun v w' => v = .agg (slotA cap sl p n).cells.toArray ∧ SketchW w' q b cap (addS cap sl p n) (addM total (countM n)) ∧ Mod (duo2 q b) w w' := by
  refine ret_of Tryz.func134 rfl (by kernel_rfl) (Nat.le_of_ble_eq_true (by kernel_rfl)) ?_
  have hle := h.le
  have hcap := h.capr
  have hqb := h.ne
  have hql := h.blk.lt
  have hbl := h.blt
  have hm1 := more_alloc w (.cells p.cells.toArray 37)
  have hb1 := Blk.new w 37 p.cells.toArray
  simp -implicitDefEqProofs (maxSteps := 1000000) only [↓zvN, zvU, ↓zvE, zvM, init, one, Value.cells, simprocAttr, tyF, zerSlot]
  obtain ⟨w1, hw1⟩ : ∃ w1, w.alloc (.cells p.cells.toArray 37) = w1 := ⟨_, rfl⟩
  rw [hw1] at hm1 hb1 ⊢
  clear hw1
  obtain ⟨y, hy⟩ : ∃ y, w.heap.size = y := ⟨_, rfl⟩
  rw [hy] at hb1 hql hbl ⊢
  rw [List.toList_toArray] at hb1
  have hyl := hb1.lt
  have hm2 := more_alloc w1 (.cells slotZ.cells.toArray 253)
  have hb2 := Blk.new w1 253 slotZ.cells.toArray
  obtain ⟨w2, hw2⟩ : ∃ w2, w1.alloc (.cells slotZ.cells.toArray 253) = w2 := ⟨_, rfl⟩
  rw [hw2] at hm2 hb2 ⊢
  clear hw2
  obtain ⟨z, hz⟩ : ∃ z, w1.heap.size = z := ⟨_, rfl⟩
  rw [hz] at hb2 hyl ⊢
  rw [List.toList_toArray] at hb2
  have hzq : z ≠ q := by omega
  have hzb : z ≠ b := by omega
  have hyz : y ≠ z := by omega
  have hyq : y ≠ q := by omega
  have hyb : y ≠ b := by omega
  have h2 := h.more (hm1.trans hm2)
  have hM2 : Mod (duo2 q b) w w2 := Mod.of_more (hm1.trans hm2)
  have hY2 := hb1.more hm2
  try simp -implicitDefEqProofs (maxSteps := 1000000) only [↓zvN, zvU, ↓zvE, zvM, init, one, Value.cells, simprocAttr, tyF]
  refine call_ok Tryz.call198 (num_count w2 n) ?_
  rintro _ w2 ⟨rfl, rfl⟩
  have ct : w2.cell? ⟨q, 1, none⟩ = some (.int .i64 total) := by rw [h2.blk.cell]; rfl
  simp -implicitDefEqProofs (maxSteps := 1000000) only [↓zvN, zvU, ↓zvE, zvM, init, one, Value.cells, simprocAttr, tyF, ct]
  refine bslice (z := .int .i64 0) (cells := #[.int .i64 total, .int .i64 (countM n)]) Tryz.underlying77 int64E (by omega) (by have := bcells_list (z := .int .i64 0) [.int .i64 total, .int .i64 (countM n)] (by intro v hv; simp at hv; rcases hv with rfl | rfl <;> rfl); exact this) ?_
  have hm3 := more_alloc w2 (.cells #[.int .i64 total, .int .i64 (countM n)] 2)
  have hb3 := Blk.new w2 2 #[.int .i64 total, .int .i64 (countM n)]
  obtain ⟨w3, hw3⟩ : ∃ w3, w2.alloc (.cells #[.int .i64 total, .int .i64 (countM n)] 2) = w3 := ⟨_, rfl⟩
  rw [hw3] at hm3 hb3 ⊢
  clear hw3
  simp -implicitDefEqProofs (maxSteps := 1000000) only [↓zvN, zvU, ↓zvE, zvM, init, one, Value.cells, simprocAttr, tyF]
  refine call_ok Tryz.call137 (num_add w3 _ _ _ hb3) ?_
  rintro _ w3 ⟨rfl, rfl⟩
  simp -implicitDefEqProofs (maxSteps := 1000000) only [↓zvN, zvU, ↓zvE, zvM, init, one, Value.cells, simprocAttr, tyF]
  have h3 := h2.more hm3
  refine st_cell (i := 1) (v := .int .i64 (addM total (countM n))) h3.blk (by simp) rfl fun w4 i4 k4 => ?_
  rw [s2_undef]
  have h4 : SketchW w4 q b cap sl (addM total (countM n)) := by
    obtain ⟨rest, g1, g2⟩ := h3.row
    exact ⟨k4, ⟨rest, i4.blk g1 hqb.symm, g2⟩, h3.plen, h3.capr, h3.le, h3.cb⟩
  have hM4 : Mod (duo2 q b) w w4 := hM2.trans ((Mod.of_more hm3).trans (Mod.of_wr i4 (.inl rfl)))
  have hY4 := i4.blk (hY2.more hm3) hyq
  have hZ4 := i4.blk (hb2.more hm3) hzq
  have lY := hY4.all_eq 8 (by simp [PrefM.cells, hp])
  simp -implicitDefEqProofs (maxSteps := 1000000) only [↓zvN, zvU, ↓zvE, zvM, init, one, Value.cells, simprocAttr, tyF, lY]
  refine call_ok Tryz.call199 (sketch_find w4 q b cap sl _ h4 p hp) ?_
  rintro _ w5 ⟨rfl, hm5⟩
  have hS := h4.more hm5
  have hMd := hM4.trans (Mod.of_more hm5)
  have hB := hZ4.more hm5
  have hY5 := hY4.more hm5
  have lY5 := hY5.all_eq 8 (by simp [PrefM.cells, hp])
  have c0 : w5.cell? ⟨q, 0, none⟩ = some (.slice (some ⟨b, 0, none⟩) sl.length cap) := by rw [hS.blk.cell]; rfl
  have hir := slotIdx_range p sl 0
  by_cases h0 : 0 ≤ slotIdx p sl 0
  · obtain ⟨k, hk0⟩ := Int.eq_ofNat_of_zero_le h0
    have hs0 : seatS cap sl p = (sl, k) := by unfold seatS; rw [if_pos h0, hk0]; rfl
    have hk : k < sl.length := by omega
    rw [hk0]
    have kk0 : (0 : Int) ≤ (k : Int) := by omega
    obtain ⟨l', hl'⟩ : ∃ l', sl = l' := ⟨_, rfl⟩
    obtain ⟨total', ht'⟩ : ∃ t', addM total (countM n) = t' := ⟨_, rfl⟩
    rw [ht'] at hS ⊢
    rw [hl'] at hS hk
    have hseat : seatS cap sl p = (l', k) := by rw [hs0, hl']
    simp -implicitDefEqProofs (maxSteps := 1000000) only [↓zvN, zvU, ↓zvE, zvM, init, one, Value.cells, simprocAttr, tyF, kk0]
    obtain ⟨x, hx⟩ : ∃ x, l'[k]? = some x := ⟨_, List.getElem?_eq_getElem hk⟩
    have hxc := hS.cb x (List.mem_of_getElem? hx)
    have hxl := hS.plen x (List.mem_of_getElem? hx)
    have ccq : ∀ {w' : World}, SketchW w' q b cap l' total' → w'.cell? ⟨q, 0, none⟩ = some (.slice (some ⟨b, 0, none⟩) l'.length cap) := fun h => by rw [h.blk.cell]; rfl
    have k0 : (0 : Int) ≤ (k : Int) := by omega
    have k1 : (k : Int) < (l'.length : Int) := by omega
    have hcnt : cntS l' k = x.count := by unfold cntS; rw [List.getD_eq_getElem?_getD, hx]; rfl
    have hrx := addM_le (n := countM n) ⟨hxc.1, hxc.2.1⟩
    have hrr := addM_range x.count (countM n)
    have ccx := hS.cnt hk
    rw [hcnt] at ccx
    have lb := hS.blt
    have lq := hS.blk.lt
    have lz := hB.lt
    try simp -implicitDefEqProofs (maxSteps := 1000000) only [↓zvN, zvU, ↓zvE, zvM, init, one, Value.cells, simprocAttr, tyF, p_nil]
    refine draw_seen 16 [[], [0], [0, 1], [0, 1, 2], [], [], [5], [5, 6], [5, 6, 7], [], [5, 6, 7, 8, 9], [5, 6, 7, 8, 9, 10], [5, 6, 7, 8, 9, 10, 11], [], [5, 6, 7, 8, 9, 10, 11, 12, 13], [5, 6, 7, 8, 9, 10, 11, 12, 13, 14], [0, 1, 2, 3, 4, 5, 6, 7, 8, 9, 10, 11, 12, 13, 14, 15], [0, 1, 2, 3, 4, 5, 6, 7, 8, 9, 10, 11, 12, 13, 14, 15, 16], [0, 1, 2, 3, 4, 5, 6, 7, 8, 9, 10, 11, 12, 13, 14, 15, 16, 17]] (RV.look [(14, Pair2 x.count (countM n)), (15, IsInt (addM x.count (countM n)))]) mixed (by kernel_rfl) (by kernel_rfl) (look_keeps _ (by
      intro z hz
      simp only [List.mem_cons, List.not_mem_nil, or_false] at hz
      rcases hz with rfl | rfl
      · exact fun v a b hab ⟨q, e, hq⟩ => ⟨q, e, hq.more hab⟩
      · exact fun v a b hab h => h)) ?_
    simp -implicitDefEqProofs (maxSteps := 1000000) only [↓zvN, zvU, ↓zqD, ↓zvE, zvM, init, one, Value.cells, simprocAttr, tyF, ccq hS, ccx, k0, k1, lb, lq, lz, Int.toNat_natCast]
    refine ⟨fun w11 hm11 => ?_, ?_⟩
    · refine bslice (z := .int .i64 0) (cells := #[.int .i64 x.count, .int .i64 (countM n)]) Tryz.underlying77 int64E (by omega) (by have := bcells_list (z := .int .i64 0) [.int .i64 x.count, .int .i64 (countM n)] (by intro v hv; simp at hv; rcases hv with rfl | rfl <;> rfl); exact this) ?_
      simp -implicitDefEqProofs (maxSteps := 1000000) only [↓zvN, zvU, ↓zqD, ↓zvE, zvM, init, one, Value.cells, simprocAttr]
      exact ⟨more_alloc _ _, _, rfl, Blk.new _ _ _⟩
    rintro _ ⟨w11, hm11, z2, rfl, hz2⟩
    simp -implicitDefEqProofs (maxSteps := 1000000) only [↓zvN, zvU, ↓zqD, ↓zvE, zvM, init, one, Value.cells, simprocAttr, tyF, ccq hS, ccx, k0, k1, lb, lq, lz, Int.toNat_natCast]
    refine ⟨fun w12 hm12 hh => ?_, ?_⟩
    · obtain ⟨q', e, hq'⟩ := hh
      cases e
      refine call_ok Tryz.call137 (num_add w12 _ (countM n) z2 hq') ?_
      rintro _ w13 ⟨rfl, rfl⟩
      simp -implicitDefEqProofs (maxSteps := 1000000) only [↓zvN, zvU, ↓zqD, ↓zvE, zvM, init, one, Value.cells, simprocAttr]
      exact ⟨More.refl _, rfl⟩
    rintro _ ⟨w12, hm12, _, rfl⟩
    simp -implicitDefEqProofs (maxSteps := 1000000) only [↓zvN, zvU, ↓zqD, ↓zvE, zvM, init, one, Value.cells, simprocAttr, tyF, ccq hS, ccx, k0, k1, lb, lq, lz, Int.toNat_natCast]
    intro w13 hm13 _
    try simp -implicitDefEqProofs (maxSteps := 1000000) only [↓zvN, zvU, ↓zvE, zvM, init, one, Value.cells, simprocAttr, tyF, p_nil]
    have h13 := hS.more hm13
    refine h13.setCnt hx (c := addM x.count (countM n)) ⟨hrr.1, hrr.2, by omega⟩ fun w14 i14 h14 => ?_
    rw [s2_undef]
    have hB14 := i14.blk (hB.more hm13) hzb
    have lb14 := h14.blt
    have lz14 := hB14.lt
    have hx14 : (l'.set k { x with count := addM x.count (countM n) })[k]? = some { x with count := addM x.count (countM n) } := List.getElem?_set_self hk
    have cq14 : w14.cell? ⟨q, 0, none⟩ = some (.slice (some ⟨b, 0, none⟩) l'.length cap) := by rw [h14.blk.cell, List.length_set]; rfl
    have rd14 : ∀ K : Value → Prop, ldRow 10 ⟨b, k * 10, none⟩ w14 K = K (.agg (SlotM.cells { x with count := addM x.count (countM n) }).toArray) := fun K => by
      have := h14.cs.rowEq h14.lens hx14 K
      rwa [add_mk, Nat.zero_add] at this
    have sl1 : (SlotM.cells { x with count := addM x.count (countM n) }).length = 10 := SlotM.len hxl
    simp -implicitDefEqProofs (maxSteps := 1000000) only [↓zvN, zvU, ↓zvE, zvM, init, one, Value.cells, simprocAttr, tyF, p_nil, cq14, rd14, k0, k1, Int.toNat_natCast]
    refine st_all hB14 (by simpa using sl1) (by simpa using SlotM.len (show slotZ.p.addr.length = 7 from rfl)) (by simpa using SlotM.one _) fun w15 i15 k15 => ?_
    rw [s2_undef]
    rw [List.toList_toArray] at k15
    have l15 := k15.all_eq 10 sl1
    try simp -implicitDefEqProofs (maxSteps := 1000000) only [↓zvN, zvU, ↓zvE, zvM, init, one, Value.cells, simprocAttr, tyF, p_nil, l15]
    have hsA : slotA cap sl p n = { x with count := addM x.count (countM n) } := by
      unfold slotA
      rw [hseat]
      simp only [List.getD_eq_getElem?_getD, hx, Option.getD_some]
    have haA : addS cap sl p n = l'.set k { x with count := addM x.count (countM n) } := by
      unfold addS
      rw [hseat, hsA]
    rw [hsA, haA]
    have m1 : Mod (duo2 q b) w w14 := hMd.trans ((Mod.of_more hm13).trans (Mod.of_wr i14 (.inr rfl)))
    exact ⟨rfl, h14.wr i15 hzq.symm hzb.symm, m1.next (Mod.of_wr (S := fun k => k = z) i15 rfl) (fun k hk e => by omega)⟩
  have hneg : slotIdx p sl 0 = -1 := by omega
  rw [hneg]
  simp -implicitDefEqProofs (maxSteps := 1000000) only [↓zvN, zvU, ↓zvE, zvM, init, one, Value.cells, simprocAttr, tyF]
  have lq5 := hS.blk.lt
  refine draw_seen 10 [[], [0], [0, 1], [0, 1, 2], [0, 1, 2, 3], [], [5], [5, 6], [5, 6, 7], [5, 6, 7, 8], [0, 1, 2, 3, 4, 5, 6, 7, 8, 9], [0, 1, 2, 3, 4, 5, 6, 7, 8, 9, 10]] (RV.look [(9, IsInt cap)]) mixed (by kernel_rfl) (by kernel_rfl) (look_keeps _ (by
    intro z hz
    simp only [List.mem_cons, List.not_mem_nil, or_false] at hz
    rcases hz with rfl
    exact fun v a b hab h => h)) ?_
  simp -implicitDefEqProofs (maxSteps := 1000000) only [↓zvN, zvU, ↓zqD, ↓zvE, zvM, init, one, Value.cells, simprocAttr, tyF, c0, lq5]
  refine ⟨fun w11 hm11 => ?_, ?_⟩
  · try simp -implicitDefEqProofs (maxSteps := 1000000) only [↓zvN, zvU, ↓zqD, ↓zvE, zvM, init, one, Value.cells, simprocAttr]
    exact ⟨More.refl _, rfl⟩
  rintro _ ⟨w11, hm11, rfl⟩
  by_cases hc : sl.length < cap
  · have hci : (sl.length : Int) < (cap : Int) := by omega
    simp -implicitDefEqProofs (maxSteps := 1000000) only [↓zvN, zvU, ↓zqD, ↓zvE, zvM, init, one, Value.cells, simprocAttr, tyF, c0, hci, lq5]
    intro w6 hm6 _
    have hS6 := hS.more hm6
    have c06 : w6.cell? ⟨q, 0, none⟩ = some (.slice (some ⟨b, 0, none⟩) sl.length cap) := by rw [hS6.blk.cell]; rfl
    have lq6 := hS6.blk.lt
    have hY6 := hY5.more hm6
    have lY6 := hY6.all_eq 8 (by simp [PrefM.cells, hp])
    try simp -implicitDefEqProofs (maxSteps := 1000000) only [↓zvN, zvU, ↓zvE, zvM, init, one, Value.cells, simprocAttr, tyF, p_nil, c06]
    have hFl : ∀ k, k = q ∨ k = y → k < w6.heap.size := by
      rintro k (rfl | rfl)
      · exact lq6
      · exact hY6.lt
    refine draw_lineM 0 (KeepF 0 fun k => k = q ∨ k = y) 9 [0, 0, 0, 0, 2, 2, 0, 1, 1] [[], [], [1], [1, 2], [1, 2, 3], [], [5], [5, 6], [1, 2, 3, 4, 5, 6, 7], [0, 1, 2, 3, 4, 5, 6, 7, 8], [0, 1, 2, 3, 4, 5, 6, 7, 8, 9], [0, 1, 2, 3, 4, 5, 6, 7, 8, 9, 10]] mixed (by kernel_rfl) (by kernel_rfl) (by kernel_rfl) (KeepF.refl _ _ _) (fun w' h => KeepF.of_more h (by omega) hFl) (fun w' h => h.1) ?_
    intro w7 hm7
    have hk7 : KeepF 0 (fun k => k = q ∨ k = y) w6 w7 := KeepF.of_more hm7 (by omega) hFl
    simp -implicitDefEqProofs (maxSteps := 1000000) only [↓zvN, zvU, ↓zqD, ↓sk_nil, ↓sk_cons, ↓sk_guard, ↓sk_zero, ↓sk_one, ↓sk_two, ↓zvE, zvM, init, one, Value.cells, simprocAttr, tyF, List.take_succ_cons, List.take_zero, List.drop_succ_cons, List.drop_zero, lq6]
    refine read_ok (.slice (some ⟨b, 0, none⟩) sl.length cap) rfl (fun wr hkr => ?_) ?_
    · have c0r : wr.cell? ⟨q, 0, none⟩ = some (.slice (some ⟨b, 0, none⟩) sl.length cap) := by rw [(hkr.blk (.inl rfl) hS6.blk).cell]; rfl
      simp -implicitDefEqProofs (maxSteps := 1000000) only [↓zvN, zvU, ↓zvE, zvM, init, one, Value.cells, simprocAttr, tyF, c0r]
    simp -implicitDefEqProofs (maxSteps := 1000000) only [↓zvN, zvU, ↓zqD, ↓sk_nil, ↓sk_cons, ↓sk_guard, ↓sk_zero, ↓sk_one, ↓sk_two, ↓zvE, zvM, init, one, Value.cells, simprocAttr, tyF]
    refine read_ok (.agg p.cells.toArray) rfl (fun wr hkr => ?_) ?_
    · have lr := (hkr.blk (.inr rfl) hY6).all_eq 8 (by simp [PrefM.cells, hp])
      simp -implicitDefEqProofs (maxSteps := 1000000) only [↓zvN, zvU, ↓zvE, zvM, init, one, Value.cells, simprocAttr, tyF, lr]
    have bt := slot_build1 p hp w7
    simp -implicitDefEqProofs (maxSteps := 1000000) only [↓zvN, zvU, ↓zqD, ↓sk_nil, ↓sk_cons, ↓sk_guard, ↓sk_zero, ↓sk_one, ↓sk_two, ↓zvE, zvM, init, one, Value.cells, simprocAttr, tyF, bt]
    have hone : ∀ u ∈ (SlotM.mk p 0 0).cells, u.oneCell' = true := SlotM.one _
    have hsl1 : (SlotM.mk p 0 0).cells.length = 10 := SlotM.len hp
    refine bslice1 (z := .agg slotZ.cells.toArray) (cs := (SlotM.mk p 0 0).cells) Tryz.underlying333 slotE (by decide) (by decide) hsl1 ?_
    have hm8 := more_alloc w7 (.cells (SlotM.mk p 0 0).cells.toArray 253)
    have hb8 := Blk.new w7 253 (SlotM.mk p 0 0).cells.toArray
    obtain ⟨w8, hw8⟩ : ∃ w8, w7.alloc (.cells (SlotM.mk p 0 0).cells.toArray 253) = w8 := ⟨_, rfl⟩
    rw [hw8] at hm8 hb8 ⊢
    clear hw8
    rw [List.toList_toArray] at hb8
    have hk8 := hk7.more hm8 (fun k hk => by have := hFl k hk; have := hm7.size; omega) (by omega)
    simp -implicitDefEqProofs (maxSteps := 1000000) only [↓zvN, zvU, ↓zqD, ↓sk_nil, ↓sk_cons, ↓sk_guard, ↓sk_zero, ↓sk_one, ↓sk_two, ↓zvE, zvM, init, one, Value.cells, simprocAttr, tyF]
    refine ⟨hk8, ?_⟩
    try simp -implicitDefEqProofs (maxSteps := 1000000) only [↓zvN, zvU, ↓zqD, ↓sk_nil, ↓sk_cons, ↓sk_guard, ↓sk_zero, ↓sk_one, ↓sk_two, ↓zvE, zvM, init, one, Value.cells, simprocAttr, tyF]
    obtain ⟨rest, hr1, hr2⟩ := (hS6.more (hm7.trans hm8)).row
    have hrl := SketchW.rowl hS6.plen
    refine app_room (size := 10) (m := 1) (news := (SlotM.mk p 0 0).cells) Tryz.underlying333 slotE hr1 hb8.cs (by omega) hone (by omega) (by rw [List.length_append]; omega) fun w9 i9 k9 => ?_
    rw [splice_eq _ _ _ (by rw [List.length_append]; omega), List.take_left' hrl, show (SlotM.mk p 0 0).cells.length = 10 from hsl1, List.drop_append, List.drop_eq_nil_of_le (by omega), hrl, List.nil_append, show sl.length * 10 + 10 - sl.length * 10 = 10 by omega] at k9
    have hk9 := hk8.next (Mod.of_wr (S := fun k => k = b) i9 rfl) (by rintro k (rfl | rfl) h; exact hqb h; exact hyb h) (fun k hk => by omega) (fun k hk => by have := hFl k hk; have := hm7.size; have := hm8.size; omega) (by omega)
    try simp -implicitDefEqProofs (maxSteps := 1000000) only [↓zvN, zvU, ↓zqD, ↓sk_nil, ↓sk_cons, ↓sk_guard, ↓sk_zero, ↓sk_one, ↓sk_two, ↓zvE, zvM, init, one, Value.cells, simprocAttr, tyF]
    refine ⟨hk9, ?_⟩
    have hq9 := hk9.blk (.inl rfl) hS6.blk
    have lq9 := hq9.lt
    try simp -implicitDefEqProofs (maxSteps := 1000000) only [↓zvN, zvU, ↓zvE, zvM, init, one, Value.cells, simprocAttr, tyF, lq9]
    refine st_cell (i := 0) (v := .slice (some ⟨b, 0, none⟩) (sl.length + 1) cap) hq9 (by simp) rfl fun w10 i10 k10 => ?_
    rw [s2_undef]
    have hseat : seatS cap sl p = (sl ++ [⟨p, 0, 0⟩], sl.length) := by unfold seatS; rw [if_neg h0, if_pos hc]
    obtain ⟨l', hl'⟩ : ∃ l', sl ++ [SlotM.mk p 0 0] = l' := ⟨_, rfl⟩
    obtain ⟨total', ht'⟩ : ∃ t', addM total (countM n) = t' := ⟨_, rfl⟩
    obtain ⟨k, hk0⟩ : ∃ k, sl.length = k := ⟨_, rfl⟩
    have hk : k < l'.length := by rw [← hl', List.length_append, hk0]; simp
    rw [hl', hk0] at hseat
    have hS0 : SketchW w10 q b cap l' total' := by
      refine ⟨?_, ⟨rest.drop 10, ?_, ?_⟩, ?_, hcap, by rw [← hl', List.length_append]; simp; omega, ?_⟩
      · rw [← hl', ← ht', List.length_append]
        exact k10
      · rw [← hl', List.flatMap_append]
        have := i10.blk k9 hqb.symm
        simpa [List.append_assoc] using this
      · rw [← hl', List.length_append, List.length_drop]
        simp
        omega
      · intro x hx
        rw [← hl'] at hx
        rcases List.mem_append.1 hx with h' | h'
        · exact hS6.plen x h'
        · rw [List.mem_singleton.1 h']; exact hp
      · intro x hx
        rw [← hl'] at hx
        rcases List.mem_append.1 hx with h' | h'
        · exact hS6.cb x h'
        · rw [List.mem_singleton.1 h']; exact ⟨Int.le_refl _, show (0 : Int) ≤ 4611686018427387904 by decide, Int.le_refl _, Int.le_refl _⟩
    have hMd0 : Mod (duo2 q b) w w10 := (((hMd.trans (Mod.of_more hm6)).trans (Mod.of_more (hm7.trans hm8))).trans (Mod.of_wr i9 (.inr rfl))).trans (Mod.of_wr i10 (.inl rfl))
    have hB0 := i10.blk (i9.blk ((hB.more hm6).more (hm7.trans hm8)) hzb) hzq
    rw [ht']
    rw [hk0]
    clear hS hMd hB
    have hS := hS0
    have hMd := hMd0
    have hB := hB0
    obtain ⟨x, hx⟩ : ∃ x, l'[k]? = some x := ⟨_, List.getElem?_eq_getElem hk⟩
    have hxc := hS.cb x (List.mem_of_getElem? hx)
    have hxl := hS.plen x (List.mem_of_getElem? hx)
    have ccq : ∀ {w' : World}, SketchW w' q b cap l' total' → w'.cell? ⟨q, 0, none⟩ = some (.slice (some ⟨b, 0, none⟩) l'.length cap) := fun h => by rw [h.blk.cell]; rfl
    have k0 : (0 : Int) ≤ (k : Int) := by omega
    have k1 : (k : Int) < (l'.length : Int) := by omega
    have hcnt : cntS l' k = x.count := by unfold cntS; rw [List.getD_eq_getElem?_getD, hx]; rfl
    have hrx := addM_le (n := countM n) ⟨hxc.1, hxc.2.1⟩
    have hrr := addM_range x.count (countM n)
    have ccx := hS.cnt hk
    rw [hcnt] at ccx
    have lb := hS.blt
    have lq := hS.blk.lt
    have lz := hB.lt
    try simp -implicitDefEqProofs (maxSteps := 1000000) only [↓zvN, zvU, ↓zvE, zvM, init, one, Value.cells, simprocAttr, tyF, p_nil]
    refine draw_seen 16 [[], [0], [0, 1], [0, 1, 2], [], [], [5], [5, 6], [5, 6, 7], [], [5, 6, 7, 8, 9], [5, 6, 7, 8, 9, 10], [5, 6, 7, 8, 9, 10, 11], [], [5, 6, 7, 8, 9, 10, 11, 12, 13], [5, 6, 7, 8, 9, 10, 11, 12, 13, 14], [0, 1, 2, 3, 4, 5, 6, 7, 8, 9, 10, 11, 12, 13, 14, 15], [0, 1, 2, 3, 4, 5, 6, 7, 8, 9, 10, 11, 12, 13, 14, 15, 16], [0, 1, 2, 3, 4, 5, 6, 7, 8, 9, 10, 11, 12, 13, 14, 15, 16, 17]] (RV.look [(14, Pair2 x.count (countM n)), (15, IsInt (addM x.count (countM n)))]) mixed (by kernel_rfl) (by kernel_rfl) (look_keeps _ (by
      intro z hz
      simp only [List.mem_cons, List.not_mem_nil, or_false] at hz
      rcases hz with rfl | rfl
      · exact fun v a b hab ⟨q, e, hq⟩ => ⟨q, e, hq.more hab⟩
      · exact fun v a b hab h => h)) ?_
    simp -implicitDefEqProofs (maxSteps := 1000000) only [↓zvN, zvU, ↓zqD, ↓zvE, zvM, init, one, Value.cells, simprocAttr, tyF, ccq hS, ccx, k0, k1, lb, lq, lz, Int.toNat_natCast]
    refine ⟨fun w11 hm11 => ?_, ?_⟩
    · refine bslice (z := .int .i64 0) (cells := #[.int .i64 x.count, .int .i64 (countM n)]) Tryz.underlying77 int64E (by omega) (by have := bcells_list (z := .int .i64 0) [.int .i64 x.count, .int .i64 (countM n)] (by intro v hv; simp at hv; rcases hv with rfl | rfl <;> rfl); exact this) ?_
      simp -implicitDefEqProofs (maxSteps := 1000000) only [↓zvN, zvU, ↓zqD, ↓zvE, zvM, init, one, Value.cells, simprocAttr]
      exact ⟨more_alloc _ _, _, rfl, Blk.new _ _ _⟩
    rintro _ ⟨w11, hm11, z2, rfl, hz2⟩
    simp -implicitDefEqProofs (maxSteps := 1000000) only [↓zvN, zvU, ↓zqD, ↓zvE, zvM, init, one, Value.cells, simprocAttr, tyF, ccq hS, ccx, k0, k1, lb, lq, lz, Int.toNat_natCast]
    refine ⟨fun w12 hm12 hh => ?_, ?_⟩
    · obtain ⟨q', e, hq'⟩ := hh
      cases e
      refine call_ok Tryz.call137 (num_add w12 _ (countM n) z2 hq') ?_
      rintro _ w13 ⟨rfl, rfl⟩
      simp -implicitDefEqProofs (maxSteps := 1000000) only [↓zvN, zvU, ↓zqD, ↓zvE, zvM, init, one, Value.cells, simprocAttr]
      exact ⟨More.refl _, rfl⟩
    rintro _ ⟨w12, hm12, _, rfl⟩
    simp -implicitDefEqProofs (maxSteps := 1000000) only [↓zvN, zvU, ↓zqD, ↓zvE, zvM, init, one, Value.cells, simprocAttr, tyF, ccq hS, ccx, k0, k1, lb, lq, lz, Int.toNat_natCast]
    intro w13 hm13 _
    try simp -implicitDefEqProofs (maxSteps := 1000000) only [↓zvN, zvU, ↓zvE, zvM, init, one, Value.cells, simprocAttr, tyF, p_nil]
    have h13 := hS.more hm13
    refine h13.setCnt hx (c := addM x.count (countM n)) ⟨hrr.1, hrr.2, by omega⟩ fun w14 i14 h14 => ?_
    rw [s2_undef]
    have hB14 := i14.blk (hB.more hm13) hzb
    have lb14 := h14.blt
    have lz14 := hB14.lt
    have hx14 : (l'.set k { x with count := addM x.count (countM n) })[k]? = some { x with count := addM x.count (countM n) } := List.getElem?_set_self hk
    have cq14 : w14.cell? ⟨q, 0, none⟩ = some (.slice (some ⟨b, 0, none⟩) l'.length cap) := by rw [h14.blk.cell, List.length_set]; rfl
    have rd14 : ∀ K : Value → Prop, ldRow 10 ⟨b, k * 10, none⟩ w14 K = K (.agg (SlotM.cells { x with count := addM x.count (countM n) }).toArray) := fun K => by
      have := h14.cs.rowEq h14.lens hx14 K
      rwa [add_mk, Nat.zero_add] at this
    have sl1 : (SlotM.cells { x with count := addM x.count (countM n) }).length = 10 := SlotM.len hxl
    simp -implicitDefEqProofs (maxSteps := 1000000) only [↓zvN, zvU, ↓zvE, zvM, init, one, Value.cells, simprocAttr, tyF, p_nil, cq14, rd14, k0, k1, Int.toNat_natCast]
    refine st_all hB14 (by simpa using sl1) (by simpa using SlotM.len (show slotZ.p.addr.length = 7 from rfl)) (by simpa using SlotM.one _) fun w15 i15 k15 => ?_
    rw [s2_undef]
    rw [List.toList_toArray] at k15
    have l15 := k15.all_eq 10 sl1
    try simp -implicitDefEqProofs (maxSteps := 1000000) only [↓zvN, zvU, ↓zvE, zvM, init, one, Value.cells, simprocAttr, tyF, p_nil, l15]
    have hsA : slotA cap sl p n = { x with count := addM x.count (countM n) } := by
      unfold slotA
      rw [hseat]
      simp only [List.getD_eq_getElem?_getD, hx, Option.getD_some]
    have haA : addS cap sl p n = l'.set k { x with count := addM x.count (countM n) } := by
      unfold addS
      rw [hseat, hsA]
    rw [hsA, haA]
    have m1 : Mod (duo2 q b) w w14 := hMd.trans ((Mod.of_more hm13).trans (Mod.of_wr i14 (.inr rfl)))
    exact ⟨rfl, h14.wr i15 hzq.symm hzb.symm, m1.next (Mod.of_wr (S := fun k => k = z) i15 rfl) (fun k hk e => by omega)⟩
  · have hci : ¬ (sl.length : Int) < (cap : Int) := by omega
    simp -implicitDefEqProofs (maxSteps := 1000000) only [↓zvN, zvU, ↓zqD, ↓zvE, zvM, init, one, Value.cells, simprocAttr, tyF, c0, hci, lq5]
    intro w6 hm6 _
    have hS6 := hS.more hm6
    have c06 : w6.cell? ⟨q, 0, none⟩ = some (.slice (some ⟨b, 0, none⟩) sl.length cap) := by rw [hS6.blk.cell]; rfl
    have lq6 := hS6.blk.lt
    have hY6 := hY5.more hm6
    try simp -implicitDefEqProofs (maxSteps := 1000000) only [↓zvN, zvU, ↓zvE, zvM, init, one, Value.cells, simprocAttr, tyF, p_nil, c06]
    refine call_ok Tryz.call200 (sketch_least w6 q b cap sl _ hS6) ?_
    rintro _ w7 ⟨rfl, hm7⟩
    have hS7 := hS6.more hm7
    have hlen : sl.length = cap := by omega
    obtain ⟨k, hkk⟩ : ∃ k, leastM sl sl.length = k := ⟨_, rfl⟩
    have hkl : k < sl.length := by have := leastM_lt sl sl.length (by omega); omega
    have k0 : (0 : Int) ≤ (k : Int) := by omega
    have k1 : (k : Int) < (sl.length : Int) := by omega
    have ck7 := hS7.cnt hkl
    have c07 : w7.cell? ⟨q, 0, none⟩ = some (.slice (some ⟨b, 0, none⟩) sl.length cap) := by rw [hS7.blk.cell]; rfl
    have hY7 := hY6.more hm7
    have lY7 := hY7.all_eq 8 (by simp [PrefM.cells, hp])
    have ly7 := hY7.lt
    have lq7 := hS7.blk.lt
    have lb7 := hS7.blt
    have bt := slot_build p (cntS sl k) (cntS sl k) hp w7
    rw [hkk]
    simp -implicitDefEqProofs (maxSteps := 1000000) only [↓zvN, zvU, ↓zvE, zvM, init, one, Value.cells, simprocAttr, tyF, p_nil]
    refine draw_seen 23 [[], [0], [0, 1], [0, 1, 2], [], [], [], [6], [6, 7], [6, 7, 8], [], [6, 7, 8, 9, 10], [6, 7, 8, 9, 10, 11], [6, 7, 8, 9, 10, 11, 12], [], [14], [14, 15], [14, 15, 16], [], [14, 15, 16, 17, 18], [14, 15, 16, 17, 18, 19], [14, 15, 16, 17, 18, 19, 20], [5, 6, 7, 8, 9, 10, 11, 12, 13, 14, 15, 16, 17, 18, 19, 20, 21], [0, 1, 2, 3, 4, 5, 6, 7, 8, 9, 10, 11, 12, 13, 14, 15, 16, 17, 18, 19, 20, 21, 22], [0, 1, 2, 3, 4, 5, 6, 7, 8, 9, 10, 11, 12, 13, 14, 15, 16, 17, 18, 19, 20, 21, 22, 23]] (RV.look []) mixed (by kernel_rfl) (by kernel_rfl) (look_keeps _ (by simp)) ?_
    simp -implicitDefEqProofs (maxSteps := 1000000) only [↓zvN, zvU, ↓zqD, ↓zvE, zvM, init, one, Value.cells, simprocAttr, tyF, c07, lY7, ck7, bt, k0, k1, lq7, ly7, lb7, Int.toNat_natCast]
    intro w8 hm8
    try simp -implicitDefEqProofs (maxSteps := 1000000) only [↓zvN, zvU, ↓zvE, zvM, init, one, Value.cells, simprocAttr, tyF, p_nil, k0, k1, Int.toNat_natCast]
    have hck := hS7.cb _ (List.getElem_mem hkl)
    have hck2 : cntS sl k = (sl[k]'hkl).count := by unfold cntS; rw [List.getD_eq_getElem?_getD, List.getElem?_eq_getElem hkl]; rfl
    refine (hS7.more hm8).setRow hkl (m' := ⟨p, cntS sl k, cntS sl k⟩) ⟨hp, by rw [hck2]; exact hck.1, by rw [hck2]; exact hck.2.1, by rw [hck2]; exact hck.1, Int.le_refl _⟩ fun w9 i9 h9 => ?_
    rw [s2_undef]
    have hseat : seatS cap sl p = (sl.set k ⟨p, cntS sl k, cntS sl k⟩, k) := by unfold seatS; rw [if_neg h0, if_neg hc, hkk]
    obtain ⟨l', hl'⟩ : ∃ l', sl.set k ⟨p, cntS sl k, cntS sl k⟩ = l' := ⟨_, rfl⟩
    obtain ⟨total', ht'⟩ : ∃ t', addM total (countM n) = t' := ⟨_, rfl⟩
    have hk : k < l'.length := by rw [← hl', List.length_set]; exact hkl
    rw [hl'] at hseat h9
    rw [ht'] at h9 ⊢
    have hS0 := h9
    have hMd0 : Mod (duo2 q b) w w9 := ((hMd.trans (Mod.of_more hm6)).trans (Mod.of_more (hm7.trans hm8))).trans (Mod.of_wr i9 (.inr rfl))
    have hB0 := i9.blk ((hB.more hm6).more (hm7.trans hm8)) hzb
    clear hS hMd hB k0 k1
    have hS := hS0
    have hMd := hMd0
    have hB := hB0
    obtain ⟨x, hx⟩ : ∃ x, l'[k]? = some x := ⟨_, List.getElem?_eq_getElem hk⟩
    have hxc := hS.cb x (List.mem_of_getElem? hx)
    have hxl := hS.plen x (List.mem_of_getElem? hx)
    have ccq : ∀ {w' : World}, SketchW w' q b cap l' total' → w'.cell? ⟨q, 0, none⟩ = some (.slice (some ⟨b, 0, none⟩) l'.length cap) := fun h => by rw [h.blk.cell]; rfl
    have k0 : (0 : Int) ≤ (k : Int) := by omega
    have k1 : (k : Int) < (l'.length : Int) := by omega
    have hcnt : cntS l' k = x.count := by unfold cntS; rw [List.getD_eq_getElem?_getD, hx]; rfl
    have hrx := addM_le (n := countM n) ⟨hxc.1, hxc.2.1⟩
    have hrr := addM_range x.count (countM n)
    have ccx := hS.cnt hk
    rw [hcnt] at ccx
    have lb := hS.blt
    have lq := hS.blk.lt
    have lz := hB.lt
    try simp -implicitDefEqProofs (maxSteps := 1000000) only [↓zvN, zvU, ↓zvE, zvM, init, one, Value.cells, simprocAttr, tyF, p_nil]
    refine draw_seen 16 [[], [0], [0, 1], [0, 1, 2], [], [], [5], [5, 6], [5, 6, 7], [], [5, 6, 7, 8, 9], [5, 6, 7, 8, 9, 10], [5, 6, 7, 8, 9, 10, 11], [], [5, 6, 7, 8, 9, 10, 11, 12, 13], [5, 6, 7, 8, 9, 10, 11, 12, 13, 14], [0, 1, 2, 3, 4, 5, 6, 7, 8, 9, 10, 11, 12, 13, 14, 15], [0, 1, 2, 3, 4, 5, 6, 7, 8, 9, 10, 11, 12, 13, 14, 15, 16], [0, 1, 2, 3, 4, 5, 6, 7, 8, 9, 10, 11, 12, 13, 14, 15, 16, 17]] (RV.look [(14, Pair2 x.count (countM n)), (15, IsInt (addM x.count (countM n)))]) mixed (by kernel_rfl) (by kernel_rfl) (look_keeps _ (by
      intro z hz
      simp only [List.mem_cons, List.not_mem_nil, or_false] at hz
      rcases hz with rfl | rfl
      · exact fun v a b hab ⟨q, e, hq⟩ => ⟨q, e, hq.more hab⟩
      · exact fun v a b hab h => h)) ?_
    simp -implicitDefEqProofs (maxSteps := 1000000) only [↓zvN, zvU, ↓zqD, ↓zvE, zvM, init, one, Value.cells, simprocAttr, tyF, ccq hS, ccx, k0, k1, lb, lq, lz, Int.toNat_natCast]
    refine ⟨fun w11 hm11 => ?_, ?_⟩
    · refine bslice (z := .int .i64 0) (cells := #[.int .i64 x.count, .int .i64 (countM n)]) Tryz.underlying77 int64E (by omega) (by have := bcells_list (z := .int .i64 0) [.int .i64 x.count, .int .i64 (countM n)] (by intro v hv; simp at hv; rcases hv with rfl | rfl <;> rfl); exact this) ?_
      simp -implicitDefEqProofs (maxSteps := 1000000) only [↓zvN, zvU, ↓zqD, ↓zvE, zvM, init, one, Value.cells, simprocAttr]
      exact ⟨more_alloc _ _, _, rfl, Blk.new _ _ _⟩
    rintro _ ⟨w11, hm11, z2, rfl, hz2⟩
    simp -implicitDefEqProofs (maxSteps := 1000000) only [↓zvN, zvU, ↓zqD, ↓zvE, zvM, init, one, Value.cells, simprocAttr, tyF, ccq hS, ccx, k0, k1, lb, lq, lz, Int.toNat_natCast]
    refine ⟨fun w12 hm12 hh => ?_, ?_⟩
    · obtain ⟨q', e, hq'⟩ := hh
      cases e
      refine call_ok Tryz.call137 (num_add w12 _ (countM n) z2 hq') ?_
      rintro _ w13 ⟨rfl, rfl⟩
      simp -implicitDefEqProofs (maxSteps := 1000000) only [↓zvN, zvU, ↓zqD, ↓zvE, zvM, init, one, Value.cells, simprocAttr]
      exact ⟨More.refl _, rfl⟩
    rintro _ ⟨w12, hm12, _, rfl⟩
    simp -implicitDefEqProofs (maxSteps := 1000000) only [↓zvN, zvU, ↓zqD, ↓zvE, zvM, init, one, Value.cells, simprocAttr, tyF, ccq hS, ccx, k0, k1, lb, lq, lz, Int.toNat_natCast]
    intro w13 hm13 _
    try simp -implicitDefEqProofs (maxSteps := 1000000) only [↓zvN, zvU, ↓zvE, zvM, init, one, Value.cells, simprocAttr, tyF, p_nil]
    have h13 := hS.more hm13
    refine h13.setCnt hx (c := addM x.count (countM n)) ⟨hrr.1, hrr.2, by omega⟩ fun w14 i14 h14 => ?_
    rw [s2_undef]
    have hB14 := i14.blk (hB.more hm13) hzb
    have lb14 := h14.blt
    have lz14 := hB14.lt
    have hx14 : (l'.set k { x with count := addM x.count (countM n) })[k]? = some { x with count := addM x.count (countM n) } := List.getElem?_set_self hk
    have cq14 : w14.cell? ⟨q, 0, none⟩ = some (.slice (some ⟨b, 0, none⟩) l'.length cap) := by rw [h14.blk.cell, List.length_set]; rfl
    have rd14 : ∀ K : Value → Prop, ldRow 10 ⟨b, k * 10, none⟩ w14 K = K (.agg (SlotM.cells { x with count := addM x.count (countM n) }).toArray) := fun K => by
      have := h14.cs.rowEq h14.lens hx14 K
      rwa [add_mk, Nat.zero_add] at this
    have sl1 : (SlotM.cells { x with count := addM x.count (countM n) }).length = 10 := SlotM.len hxl
    simp -implicitDefEqProofs (maxSteps := 1000000) only [↓zvN, zvU, ↓zvE, zvM, init, one, Value.cells, simprocAttr, tyF, p_nil, cq14, rd14, k0, k1, Int.toNat_natCast]
    refine st_all hB14 (by simpa using sl1) (by simpa using SlotM.len (show slotZ.p.addr.length = 7 from rfl)) (by simpa using SlotM.one _) fun w15 i15 k15 => ?_
    rw [s2_undef]
    rw [List.toList_toArray] at k15
    have l15 := k15.all_eq 10 sl1
    try simp -implicitDefEqProofs (maxSteps := 1000000) only [↓zvN, zvU, ↓zvE, zvM, init, one, Value.cells, simprocAttr, tyF, p_nil, l15]
    have hsA : slotA cap sl p n = { x with count := addM x.count (countM n) } := by
      unfold slotA
      rw [hseat]
      simp only [List.getD_eq_getElem?_getD, hx, Option.getD_some]
    have haA : addS cap sl p n = l'.set k { x with count := addM x.count (countM n) } := by
      unfold addS
      rw [hseat, hsA]
    rw [hsA, haA]
    have m1 : Mod (duo2 q b) w w14 := hMd.trans ((Mod.of_more hm13).trans (Mod.of_wr i14 (.inr rfl)))
    exact ⟨rfl, h14.wr i15 hzq.symm hzb.symm, m1.next (Mod.of_wr (S := fun k => k = z) i15 rfl) (fun k hk e => by omega)⟩
end Go.Proofs.YtofhbonnojooeaaGreat

namespace Go.Proofs.RV
open Go Go.RowKit
set_option linter.unusedSimpArgs false
set_option linter.unusedVariables false
section
variable {P : Program} {Ext : World → World → Prop} {ops : Array Oper} {w0 : World} {D : List (List Nat)}
theorem list_parted {i : Nat} {o : Oper} (ho : ops[i]? = some o) : ops.toList.zipIdx = ops.toList.zipIdx.take i ++ (o, i) :: ops.toList.zipIdx.drop (i + 1) := by
  have hg : ops.toList.zipIdx[i]? = some (o, i) := by
    rw [List.getElem?_zipIdx]
    simp [ho]
  have hlt := (List.getElem?_eq_some_iff.1 hg).1
  conv => lhs; rw [← List.take_append_drop i ops.toList.zipIdx]
  rw [List.drop_eq_getElem_cons hlt]
  rw [(List.getElem?_eq_some_iff.1 hg).2]
theorem mem_pre {i : Nat} {x : Oper × Nat} (hx : x ∈ ops.toList.zipIdx.take i) : x.2 < i ∧ ops[x.2]? = some x.1 := by
  obtain ⟨k, hk⟩ := List.getElem?_of_mem hx
  rw [List.getElem?_take] at hk
  split at hk
  · rename_i hki
    rw [List.getElem?_zipIdx] at hk
    simp only [Option.map_eq_some_iff] at hk
    obtain ⟨y, hy, rfl⟩ := hk
    simp only [Nat.zero_add]
    exact ⟨hki, by simpa using hy⟩
  · cases hk
theorem mem_post {i : Nat} {x : Oper × Nat} (hx : x ∈ ops.toList.zipIdx.drop (i + 1)) : x.2 ≠ i := by
  obtain ⟨k, hk⟩ := List.getElem?_of_mem hx
  rw [List.getElem?_drop, List.getElem?_zipIdx] at hk
  simp only [Option.map_eq_some_iff] at hk
  obtain ⟨y, hy, rfl⟩ := hk
  simp only
  omega
theorem rems_set {F : List Bool} {listed : Array Bool} {i : Nat} {o : Oper} (ho : ops[i]? = some o) (hsz : listed.size = ops.size) :
    rems F (listed.setIfInBounds i true) ops.toList.zipIdx = rems F listed (ops.toList.zipIdx.take i) ++ rems F listed (ops.toList.zipIdx.drop (i + 1)) := by
  have hi' := (Array.getElem?_eq_some_iff.1 ho).1
  conv => lhs; rw [list_parted ho]
  rw [← rems_listed (F := F) (hsz ▸ hi') (ops.toList.zipIdx.take i) (fun x hx => by have := (mem_pre hx).1; omega), ← rems_listed (F := F) (hsz ▸ hi') (ops.toList.zipIdx.drop (i + 1)) (fun x hx => mem_post hx)]
  unfold rems
  rw [List.filter_append, List.map_append, List.filter_cons_of_neg (by simp only [set_get (hsz ▸ hi')]; simp)]
theorem rems_congr {F F' : List Bool} {listed : Array Bool} {l : List (Oper × Nat)} (h : ∀ x ∈ l, listed.getD x.2 false = false → F.getD x.2 false = F'.getD x.2 false) : rems F listed l = rems F' listed l := by
  unfold rems
  refine List.map_congr_left fun x hx => ?_
  obtain ⟨h1, h2⟩ := List.mem_filter.1 hx
  rw [h x h1 (by simpa using h2)]
theorem front_rem (hrf : Ext w0 w0) (hD : OkD ops D) {F : List Bool} {K : Env → World → Prop} {listed : Array Bool} {i : Nat} {o : Oper} {e : Env} {w : World} (ho : ops[i]? = some o) (hsz : listed.size = ops.size) (hLi : listed.getD i false = false)
    (hdone : ∀ x ∈ D.getD i [], listed.getD x false = true) (hcmp : ∀ y, y < i → listed.getD y false = false → F.getD y false = true → F.getD i false = true → False)
    (hs : sqSK P Ext ops w0 (rems F listed ops.toList.zipIdx) e w K) : stepSK P Ext ops w0 (F.getD i false) o e w fun e w => sqSK P Ext ops w0 (rems F (listed.setIfInBounds i true) ops.toList.zipIdx) e w K := by
  have hr1 : rems F listed ops.toList.zipIdx = rems F listed (ops.toList.zipIdx.take i) ++ (F.getD i false, i, o) :: rems F listed (ops.toList.zipIdx.drop (i + 1)) := by
    conv => lhs; rw [list_parted ho]
    unfold rems
    rw [List.filter_append, List.map_append, List.filter_cons_of_pos (by simp only [hLi]; rfl), List.map_cons]
  rw [hr1] at hs
  have hs2 := frontK hrf (rems F listed (ops.toList.zipIdx.take i)) (fun x hx => by
    unfold rems at hx
    obtain ⟨y, hy, rfl⟩ := List.mem_map.1 hx
    obtain ⟨hy1, hy2⟩ := List.mem_filter.1 hy
    obtain ⟨hlt, hq⟩ := mem_pre hy1
    have hyl : listed.getD y.2 false = false := by simpa using hy2
    have hnd : y.2 ∉ D.getD i [] := fun hh => by rw [hdone _ hh] at hyl; cases hyl
    have hnd2 : i ∉ D.getD y.2 [] := fun hh => by have := hD.lt y.2 _ hq i hh; omega
    refine ⟨⟨fun s hs hd => ?_, fun s hs hd => ?_, fun s hd => hD.dst i o y.2 _ ho hq (by omega) s hd, hD.sel i o ho, hD.sel y.2 _ hq⟩, fun hff => hcmp _ hlt hyl hff.2 hff.1⟩
    · rcases hD.read i o ho s hs y.2 _ hq hd with h5 | h5
      · exact hnd h5
      · exact hnd2 h5
    · rcases hD.read y.2 _ hq s hs i o ho hd with h5 | h5
      · exact hnd2 h5
      · exact hnd h5) e w hs
  rw [sqS_consK] at hs2
  rw [← rems_set ho hsz] at hs2
  exact hs2
theorem any_gen (hD : OkD ops D) {n : Nat} {K : Env → World → Prop} {Q : Exit → Act → World → Prop} (hn : ∀ o ∈ ops, ∀ t, o.dst = some t → t < n) (hQ : ∀ a e w, Rep n a e → K e w → Q .normal a w)
    (Good : Array Bool → Env → World → Prop) (hfin : ∀ listed e w, (∀ j, j < ops.size → listed.getD j false = true) → Good listed e w → K e w)
    (hstep : ∀ (listed : Array Bool) (e : Env) (w : World) (i : Nat) (o : Oper), ops[i]? = some o → listed.size = ops.size → listed.getD i false = false → (∀ x ∈ D.getD i [], listed.getD x false = true) → Good listed e w →
      if wants o.guard ops e = true then Ends P ((execOp (ev e) o).run P w) (fun v w' => Good (listed.setIfInBounds i true) (upO e o.dst v) w') else Good (listed.setIfInBounds i true) (upO e o.dst undef) w) :
    ∀ (fuel : Nat) (listed : Array Bool) (a : Act) (e : Env) (w : World), listed.size = ops.size → Rep n a e → (∀ (i : Nat) (o : Oper), ops[i]? = some o → listed.getD i false = true → ∀ x ∈ D.getD i [], listed.getD x false = true) →
      Good listed e w → ((List.range ops.size).filter fun j => !listed.getD j false).length ≤ fuel → wpAny P .any ops Q fuel listed a w := by
  intro fuel
  induction fuel with
  | zero =>
    intro listed a e w hsz hr hsh hs hf
    have hall : ∀ j, j < ops.size → listed.getD j false = true := by
      intro j hj
      cases h : listed.getD j false with
      | true => rfl
      | false =>
        have : j ∈ (List.range ops.size).filter fun j => !listed.getD j false := List.mem_filter.2 ⟨List.mem_range.2 hj, by rw [h]; rfl⟩
        rw [List.eq_nil_of_length_eq_zero (Nat.le_zero.1 hf)] at this
        cases this
    refine ⟨?_, hQ _ _ _ hr (hfin _ _ _ hall hs)⟩
    refine List.eq_nil_iff_forall_not_mem.2 fun j hj => ?_
    obtain ⟨h1, o, ho, _⟩ := mem_ready.1 hj
    have hj' := (Array.getElem?_eq_some_iff.1 ho).1
    have h2 := hall j hj'
    simp only [Array.getD_eq_getD_getElem?, Array.getElem?_eq_getElem (hsz ▸ hj'), Option.getD_some] at h1 h2
    rw [h1] at h2
    cases h2
  | succ fuel ih =>
    intro listed a e w hsz hr hsh hs hf
    have same : ∀ j, j < ops.size → listed.getD j true = listed.getD j false := fun j hj => by
      simp [Array.getD_eq_getD_getElem?, Array.getElem?_eq_getElem (hsz ▸ hj)]
    refine ⟨fun hnil => ?_, fun i hi => ?_⟩
    · have key : ∀ m j (q : Oper), j ≤ m → ops[j]? = some q → listed.getD j false = true := by
        intro m
        induction m with
        | zero =>
          intro j q hj hq
          obtain rfl : j = 0 := by omega
          cases h : listed.getD 0 false with
          | true => rfl
          | false =>
            have : 0 ∈ Region.ready .any ops listed := mem_ready.2 ⟨by rw [same 0 (Array.getElem?_eq_some_iff.1 hq).1]; exact h, q, hq, fun ed hed hb => absurd (hD.lt 0 q hq ed.on (hD.bind 0 q hq ed.on (List.mem_filterMap.2 ⟨ed, by simpa using hed, by rw [if_pos hb]⟩))) (Nat.not_lt_zero _)⟩
            rw [hnil] at this
            cases this
        | succ m ihm =>
          intro j q hj hq
          by_cases hjm : j ≤ m
          · exact ihm j q hjm hq
          · cases h : listed.getD j false with
            | true => rfl
            | false =>
              have : j ∈ Region.ready .any ops listed := mem_ready.2 ⟨by rw [same j (Array.getElem?_eq_some_iff.1 hq).1]; exact h, q, hq, fun ed hed hb => by
                have h1 := hD.bind j q hq ed.on (List.mem_filterMap.2 ⟨ed, by simpa using hed, by rw [if_pos hb]⟩)
                have h2 := hD.lt j q hq ed.on h1
                have h3 := (Array.getElem?_eq_some_iff.1 hq).1
                exact ihm ed.on _ (by omega) (Array.getElem?_eq_getElem (show ed.on < ops.size by omega))⟩
              rw [hnil] at this
              cases this
      exact hQ _ _ _ hr (hfin _ _ _ (fun j hj => key j j _ (Nat.le_refl _) (Array.getElem?_eq_getElem hj)) hs)
    · obtain ⟨h1, o, ho, h2⟩ := mem_ready.1 hi
      have hi' := (Array.getElem?_eq_some_iff.1 ho).1
      have hLi : listed.getD i false = false := (same i hi').symm.trans h1
      have hdone : ∀ x ∈ D.getD i [], listed.getD x false = true := by
        have hb : ∀ x ∈ binding o, listed.getD x false = true := by
          intro x hx
          obtain ⟨ed, hed, hh⟩ := List.mem_filterMap.1 hx
          by_cases hb : Region.binds .any ed = true
          · rw [if_pos hb] at hh
            injection hh with hh
            subst hh
            exact h2 ed (by simpa using hed) hb
          · rw [if_neg hb] at hh
            cases hh
        intro x hx
        rcases hD.dep i o ho x hx with h3 | ⟨j, hj, hxj⟩
        · exact hb x h3
        · have hjs : j < ops.size := by
            have := hD.lt i o ho j (hD.bind i o ho j hj)
            omega
          exact hsh j _ (Array.getElem?_eq_getElem hjs) (hb j hj) x hxj
      have hlen : ((List.range ops.size).filter fun j => !(listed.setIfInBounds i true).getD j false).length ≤ fuel := by
        have hsub : ((List.range ops.size).filter fun j => !(listed.setIfInBounds i true).getD j false) = ((List.range ops.size).filter fun j => !listed.getD j false).filter (fun j => !(j == i)) := by
          rw [List.filter_filter]
          apply List.filter_congr
          intro j _
          rw [set_get (hsz ▸ hi')]
          by_cases hji : j = i
          · simp [hji]
          · simp [hji]
        have hmem : i ∈ (List.range ops.size).filter fun j => !listed.getD j false := List.mem_filter.2 ⟨List.mem_range.2 hi', by rw [hLi]; rfl⟩
        rw [hsub]
        have : (((List.range ops.size).filter fun j => !listed.getD j false).filter fun j => !(j == i)).length < ((List.range ops.size).filter fun j => !listed.getD j false).length := by
          refine List.length_filter_lt_length_iff_exists.2 ⟨i, hmem, by simp⟩
        omega
      have hsh' : ∀ (j : Nat) (q : Oper), ops[j]? = some q → (listed.setIfInBounds i true).getD j false = true → ∀ x ∈ D.getD j [], (listed.setIfInBounds i true).getD x false = true := by
        intro j q hq hj x hx
        rw [set_get (hsz ▸ hi')] at hj ⊢
        split
        · rfl
        · split at hj
          · rename_i hji
            subst hji
            exact hdone x hx
          · exact hsh j q hq hj x hx
      have hnd := hn o (by rw [Array.mem_iff_getElem?]; exact ⟨i, ho⟩)
      have next : ∀ v w', Good (listed.setIfInBounds i true) (upO e o.dst v) w' → wpAny P .any ops Q fuel (listed.setIfInBounds i true) (a.put o.dst v) w' :=
        fun v w' hh => ih _ _ _ _ (by simpa using hsz) (hr.put _ hnd v) hsh' hh hlen
      have hgo := hstep listed e w i o ho hsz hLi hdone hs
      unfold wpOp
      simp only [ho]
      rw [wanted_eq hr]
      by_cases hw : wants o.guard ops e = true
      · rw [if_pos hw] at hgo ⊢
        exact .inl (op_wp hr hgo fun v w' h => next v w' h)
      · rw [if_neg hw] at hgo ⊢
        exact next undef w hgo
theorem step_ends {f : Bool} {o : Oper} {e : Env} {w : World} {N N' : Env → World → Prop} (hb : Ext w0 w) (h : stepSK P Ext ops w0 f o e w N) (hN : ∀ e w, Ext w0 w → N e w → N' e w) :
    if wants o.guard ops e = true then Ends P ((execOp (ev e) o).run P w) (fun v w' => N' (upO e o.dst v) w') else N' (upO e o.dst undef) w := by
  unfold stepSK at h
  by_cases hw : wants o.guard ops e = true
  · rw [if_pos hw] at h ⊢
    split at h
    · exact h.mono fun v w' ⟨h1, h2⟩ => hN _ _ h1 h2
    · obtain ⟨v, hval, h4⟩ := h
      rw [hval w hb]
      exact hN _ _ hb h4
  · rw [if_neg hw] at h ⊢
    exact hN _ _ hb h
def off (F : List Bool) (p : Nat) : List Bool := F.set p false
theorem off_get (F : List Bool) (p j : Nat) : (off F p).getD j false = if j = p then false else F.getD j false := by
  unfold off
  rw [List.getD_eq_getElem?_getD, List.getD_eq_getElem?_getD, List.getElem?_set]
  by_cases h : p = j
  · subst h
    simp
    split <;> rfl
  · rw [if_neg h, if_neg (fun e => h e.symm)]
def okFl (D : List (List Nat)) (F : List Bool) (c p : Nat) : Bool := okF D (off F p) && okF D (off F c) && decide (c < p) && decide (p < F.length) && (D.getD p []).isEmpty && F.getD p false && (List.range F.length).all fun j => j == c || j == p || !F.getD j false || ((D.getD j []).contains c && (D.getD j []).contains p)
def flG (P : Program) (Ext : World → World → Prop) (ops : Array Oper) (w0 : World) (F : List Bool) (c p : Nat) (op : Oper) (K : Env → World → Prop) (listed : Array Bool) (e : Env) (w : World) : Prop :=
  Ext w0 w ∧ if listed.getD p false = true then sqSK P Ext ops w0 (rems (off F p) listed ops.toList.zipIdx) e w K
    else if listed.getD c false = true then sqSK P Ext ops w0 (rems (off F c) listed ops.toList.zipIdx) e w K
    else sqSK P Ext ops w0 (rems F listed ops.toList.zipIdx) e w K ∧ stepSK P Ext ops w0 true op e w fun e w => sqSK P Ext ops w0 (rems (off F p) (listed.setIfInBounds p true) ops.toList.zipIdx) e w K
theorem set_comm_b {listed : Array Bool} {i p : Nat} : (listed.setIfInBounds i true).setIfInBounds p true = (listed.setIfInBounds p true).setIfInBounds i true := by
  apply Array.ext_getElem?
  intro j
  simp only [Array.getElem?_setIfInBounds, Array.size_setIfInBounds]
  by_cases h1 : p = j <;> by_cases h2 : i = j <;> simp [h1, h2]
theorem fl_step (hrf : Ext w0 w0) (hD : OkD ops D) {F : List Bool} {c p : Nat} {op : Oper} {K : Env → World → Prop} (hF : okFl D F c p = true) (hop : ops[p]? = some op) (listed : Array Bool) (e : Env) (w : World) (i : Nat) (o : Oper) (ho : ops[i]? = some o) (hsz : listed.size = ops.size)
    (hLi : listed.getD i false = false) (hdone : ∀ x ∈ D.getD i [], listed.getD x false = true) (hG : flG P Ext ops w0 F c p op K listed e w) :
    if wants o.guard ops e = true then Ends P ((execOp (ev e) o).run P w) (fun v w' => flG P Ext ops w0 F c p op K (listed.setIfInBounds i true) (upO e o.dst v) w') else flG P Ext ops w0 F c p op K (listed.setIfInBounds i true) (upO e o.dst undef) w := by
  unfold okFl at hF
  simp only [Bool.and_eq_true, decide_eq_true_eq, List.all_eq_true, List.mem_range, Bool.or_eq_true, beq_iff_eq, Bool.not_eq_true', List.contains_iff_mem, List.isEmpty_iff] at hF
  obtain ⟨⟨⟨⟨⟨⟨f1, f2⟩, f3⟩, f4⟩, f5⟩, f6⟩, f7⟩ := hF
  have hi' : i < listed.size := hsz ▸ (Array.getElem?_eq_some_iff.1 ho).1
  have hp' : p < listed.size := hsz ▸ (Array.getElem?_eq_some_iff.1 hop).1
  have f7' : ∀ j, F.getD j false = true → j ≠ c → j ≠ p → c ∈ D.getD j [] ∧ p ∈ D.getD j [] := by
    intro j hj h1 h2
    have hjl : j < F.length := by
      rcases Nat.lt_or_ge j F.length with h | h
      · exact h
      · rw [List.getD_eq_getElem?_getD, List.getElem?_eq_none h] at hj; cases hj
    rcases f7 j hjl with ((h | h) | h) | h
    · exact absurd h h1
    · exact absurd h h2
    · rw [hj] at h; cases h
    · exact h
  obtain ⟨hb, hG⟩ := hG
  have fin : ∀ e w, Ext w0 w → (if (listed.setIfInBounds i true).getD p false = true then sqSK P Ext ops w0 (rems (off F p) (listed.setIfInBounds i true) ops.toList.zipIdx) e w K
    else if (listed.setIfInBounds i true).getD c false = true then sqSK P Ext ops w0 (rems (off F c) (listed.setIfInBounds i true) ops.toList.zipIdx) e w K
    else sqSK P Ext ops w0 (rems F (listed.setIfInBounds i true) ops.toList.zipIdx) e w K ∧ stepSK P Ext ops w0 true op e w fun e w => sqSK P Ext ops w0 (rems (off F p) ((listed.setIfInBounds i true).setIfInBounds p true) ops.toList.zipIdx) e w K) → flG P Ext ops w0 F c p op K (listed.setIfInBounds i true) e w := fun e w h1 h2 => ⟨h1, h2⟩
  by_cases hlp : listed.getD p false = true
  · rw [if_pos hlp] at hG
    have hip : i ≠ p := by rintro rfl; rw [hlp] at hLi; cases hLi
    have hs := front_rem hrf hD ho hsz hLi hdone (fun y hy hyl h1 h2 => by
      have := okF_spec f1 h1 h2 hy
      rw [hdone _ this] at hyl
      cases hyl) hG
    refine step_ends hb hs fun e' w' h1 h2 => fin _ _ h1 ?_
    rw [if_pos (by rw [set_get hi', if_neg (Ne.symm hip)]; exact hlp)]
    exact h2
  rw [if_neg hlp] at hG
  have hlp' : listed.getD p false = false := by simpa using hlp
  by_cases hlc : listed.getD c false = true
  · rw [if_pos hlc] at hG
    have hic : i ≠ c := by rintro rfl; rw [hlc] at hLi; cases hLi
    have hs := front_rem hrf hD ho hsz hLi hdone (fun y hy hyl h1 h2 => by
      have := okF_spec f2 h1 h2 hy
      rw [hdone _ this] at hyl
      cases hyl) hG
    refine step_ends hb hs fun e' w' h1 h2 => fin _ _ h1 ?_
    by_cases hip : i = p
    · subst hip
      rw [if_pos (by rw [set_get hi', if_pos rfl])]
      rw [rems_congr (F' := off F c)]
      · exact h2
      · intro x hx hxl
        rw [set_get hi'] at hxl
        rw [off_get, off_get]
        by_cases hx1 : x.2 = i
        · rw [if_pos hx1] at hxl; cases hxl
        · rw [if_neg hx1] at hxl ⊢
          rw [if_neg]
          rintro e1
          rw [e1, hlc] at hxl
          cases hxl
    · rw [if_neg (by rw [set_get hi', if_neg (Ne.symm hip)]; exact hlp), if_pos (by rw [set_get hi', if_neg (Ne.symm hic)]; exact hlc)]
      exact h2
  rw [if_neg hlc] at hG
  have hlc' : listed.getD c false = false := by simpa using hlc
  obtain ⟨hA, hB⟩ := hG
  by_cases hip : i = p
  · subst hip
    rw [hop] at ho
    cases ho
    refine step_ends hb hB fun e' w' h1 h2 => fin _ _ h1 ?_
    rw [if_pos (by rw [set_get hi', if_pos rfl])]
    exact h2
  -- by the order of the text
  have hs := front_rem hrf hD ho hsz hLi hdone (fun y hy hyl h1 h2 => by
    by_cases hyc : y = c
    · subst hyc
      by_cases hic : i = y
      · omega
      · have := (f7' i h2 hic hip).1
        rw [hdone _ this] at hyl
        cases hyl
    · by_cases hyp : y = p
      · subst hyp
        by_cases hic : i = c
        · omega
        · have := (f7' i h2 hic hip).2
          rw [hdone _ this] at hyl
          cases hyl
      · have := f7' y h1 hyc hyp
        by_cases hic : i = c
        · subst hic
          have hq := Array.getElem?_eq_getElem (show y < ops.size by have := (Array.getElem?_eq_some_iff.1 ho).1; omega)
          have := hD.lt y _ hq i this.1
          omega
        · have := (f7' i h2 hic hip).1
          rw [hdone _ this] at hlc
          exact hlc rfl) hA
  by_cases hic : i = c
  · subst hic
    refine step_ends hb hs fun e' w' h1 h2 => fin _ _ h1 ?_
    rw [if_neg (by rw [set_get hi', if_neg (Ne.symm hip)]; exact hlp), if_pos (by rw [set_get hi', if_pos rfl])]
    rw [rems_congr (F' := F)]
    · exact h2
    · intro x hx hxl
      rw [set_get hi'] at hxl
      rw [off_get]
      by_cases hx1 : x.2 = i
      · rw [if_pos hx1] at hxl; cases hxl
      · rw [if_neg hx1]
  -- quiet
  have hq : F.getD i false = false := by
    cases h : F.getD i false with
    | false => rfl
    | true =>
      have := (f7' i h hic hip).1
      rw [hdone _ this] at hlc
      exact absurd rfl hlc
  have hLp : (listed.setIfInBounds p true).getD i false = false := by rw [set_get hp', if_neg hip]; exact hLi
  have hoffi : (off F p).getD i false = false := by rw [off_get, if_neg hip]; exact hq
  have hB2 : stepSK P Ext ops w0 true op e w fun e w => stepSK P Ext ops w0 false o e w fun e w => sqSK P Ext ops w0 (rems (off F p) ((listed.setIfInBounds i true).setIfInBounds p true) ops.toList.zipIdx) e w K := by
    refine stepS_monoK hB fun e' w' h => ?_
    have := front_rem hrf hD ho (by simpa using hsz) hLp (fun x hx => by
      rw [set_get hp']
      split
      · rfl
      · exact hdone x hx) (fun y hy hyl h1 h2 => by rw [hoffi] at h2; cases h2) h
    rw [hoffi, ← set_comm_b] at this
    exact this
  have hpD : p ∉ D.getD i [] := fun h => by rw [hdone _ h] at hlp; exact hlp rfl
  have hiD : i ∉ D.getD p [] := fun h => by rw [f5] at h; cases h
  have hin : Indep ops o op := ⟨fun s hs hd => by
      rcases hD.read i o ho s hs p _ hop hd with h5 | h5
      · exact hpD h5
      · exact hiD h5, fun s hs hd => by
      rcases hD.read p _ hop s hs i o ho hd with h5 | h5
      · exact hiD h5
      · exact hpD h5, fun s hd => hD.dst i o p _ ho hop (fun e => hip e.symm) s hd, hD.sel i o ho, hD.sel p _ hop⟩
  have hB3 := swapK hrf hin (f := false) (g := true) (by simp) hB2
  rw [hq] at hs
  -- both at once
  have both : stepSK P Ext ops w0 false o e w fun e w => sqSK P Ext ops w0 (rems F (listed.setIfInBounds i true) ops.toList.zipIdx) e w K ∧ stepSK P Ext ops w0 true op e w fun e w => sqSK P Ext ops w0 (rems (off F p) ((listed.setIfInBounds i true).setIfInBounds p true) ops.toList.zipIdx) e w K := by
    unfold stepSK at hs hB3 ⊢
    by_cases hw : wants o.guard ops e = true
    · rw [if_pos hw] at hs hB3 ⊢
      simp only [Bool.false_eq_true, if_false] at hs hB3 ⊢
      obtain ⟨v, hv, h1⟩ := hs
      obtain ⟨v', hv', h2⟩ := hB3
      obtain rfl := valE_unique hrf hv hv'
      exact ⟨v, hv, h1, h2⟩
    · rw [if_neg hw] at hs hB3 ⊢
      exact ⟨hs, hB3⟩
  refine step_ends hb both fun e' w' h1 h2 => fin _ _ h1 ?_
  rw [if_neg (by rw [set_get hi', if_neg (Ne.symm hip)]; exact hlp), if_neg (by rw [set_get hi', if_neg (Ne.symm hic)]; exact hlc)]
  exact h2
end
theorem sk_sound2 {P : Program} {B : Nat} {Ext : World → World → Prop} {ops : Array Oper} {w0 : World} {K : Env → World → Prop} {F : List Bool} (hBe : ∀ w', Ext w0 w' → Below B w0 w') : ∀ (l : List (Oper × Nat)) (fs : List Nat) (e : Env) (w : World), (∀ (j : Nat) (x : Oper × Nat), l[j]? = some x → (fs.getD j 0 == 1) = F.getD x.2 false) → skP P B Ext ops w0 (l.map Prod.fst) fs e w K →
    sqSK P Ext ops w0 (l.map fun x => (F.getD x.2 false, x.2, x.1)) e w K
  | [], fs, e, w, hfs, h => h
  | x :: r, fs, e, w, hfs, h => by
    have h0 : (fs.headD 0 == 1) = F.getD x.2 false := by
      have := hfs 0 x rfl
      rw [← this]
      cases fs <;> rfl
    have ht : ∀ (j : Nat) (y : Oper × Nat), r[j]? = some y → (fs.tail.getD j 0 == 1) = F.getD y.2 false := fun j y hy => by
      have := hfs (j + 1) y (by simpa using hy)
      rw [← this]
      cases fs <;> simp
    rw [List.map_cons] at h
    unfold skP at h
    rw [guard_ite] at h
    rw [List.map_cons, sqS_consK]
    unfold stepSK
    by_cases hw : wants x.1.guard ops e = true
    · rw [if_pos hw] at h ⊢
      generalize fs.headD 0 = f at h h0
      rw [← h0]
      unfold skI at h
      split at h
      · rw [if_neg (by simp)]
        obtain ⟨v, h1, h2⟩ := opV_sound h
        exact ⟨v, fun w1 hx => h1 w1 (hBe w1 hx), sk_sound2 hBe r fs.tail _ _ ht h2⟩
      · rw [if_pos (by simp)]
        exact (op_sound h).mono fun v w' ⟨h1, h2⟩ => ⟨h1, sk_sound2 hBe r fs.tail _ _ ht h2⟩
      · rename_i h5 h6
        rw [if_neg (by simpa using h6)]
        obtain ⟨v, h1, h2⟩ := readK_sound h
        exact ⟨v, h1, sk_sound2 hBe r fs.tail _ _ ht h2⟩
    · rw [if_neg hw] at h ⊢
      exact sk_sound2 hBe r fs.tail _ _ ht h
theorem off_nat (F : List Nat) (p j : Nat) : (off (F.map (· == 1)) p).getD j false = if j = p then false else (F.getD j 0 == 1) := by
  rw [off_get]
  split
  · rfl
  · rw [List.getD_eq_getElem?_getD, List.getD_eq_getElem?_getD, List.getElem?_map]
    cases F[j]? <;> rfl
theorem draw_float {P : Program} {id : Nat} {l : List Oper} {e0 : Env} {w0 : World} {K : Env → World → Prop} (B : Nat) (Ext : World → World → Prop) (F : List Nat) (c p : Nat) (D : List (List Nat)) {op : Oper} (hm : P.follows .mixedOrders = true) (hD : okD l.toArray D = true) (hF : okFl D (F.map (· == 1)) c p = true)
    (hp : l[p]? = some op) (hg : op.guard = none) (hl : F.length = l.length)
    (hrf : Ext w0 w0) (hdr : ∀ w', More w0 w' → Ext w0 w') (hBe : ∀ w', Ext w0 w' → Below B w0 w')
    (hv1 : ∀ w1, More w0 w1 → opP P op e0 w1 (Stop (fun v w' => Ext w0 w' ∧ skP P B Ext l.toArray w0 (l.take p ++ l.drop (p + 1)) (F.take p ++ F.drop (p + 1)) (upO e0 op.dst v) w' (Stop K .mk)) .mk))
    (hv2 : ∀ w1, More w0 w1 → skP P B Ext l.toArray w0 l F e0 w1 (Stop K .mk)) : drawP P id l.toArray e0 w0 K := by
  intro n a hd hr
  refine wp_region_any hm ?_
  have hop : l.toArray[p]? = some op := by simpa using hp
  have hpl : p < l.length := (List.getElem?_eq_some_iff.1 hp).1
  have hcp : c < p := by
    unfold okFl at hF
    simp only [Bool.and_eq_true, decide_eq_true_eq] at hF
    exact hF.1.1.1.1.2
  refine any_gen (okD_spec hD) hd (fun a e w hr hk => ⟨e, hr, rfl, hk⟩) (flG P Ext l.toArray w0 (F.map (· == 1)) c p op K) ?_ (fun listed e w i o ho hsz hLi hdone hG => fl_step hrf (okD_spec hD) hF hop listed e w i o ho hsz hLi hdone hG) l.toArray.size _ a e0 _ (by simp) hr ?_ ?_ ?_
  · intro listed e w hall ⟨_, hG⟩
    rw [if_pos (hall p (by simpa using hpl))] at hG
    have hrem : rems (off (F.map (· == 1)) p) listed l.toArray.toList.zipIdx = [] := by
      unfold rems
      rw [List.filter_eq_nil_iff.2 fun x hx => ?_, List.map_nil]
      have := List.mem_zipIdx hx
      rw [hall x.2 (by simp at this; simpa using this.1)]
      simp
    rw [hrem] at hG
    exact hG
  · intro i o ho hi
    simp [Array.getD_eq_getD_getElem?, Array.getElem?_replicate] at hi
    split at hi <;> simp at hi
  · have hno : ∀ j, (Array.replicate l.toArray.size false).getD j false = false := fun j => by
      simp [Array.getD_eq_getD_getElem?, Array.getElem?_replicate]
      split <;> rfl
    refine ⟨hdr _ (below_drawn _ _), ?_⟩
    rw [if_neg (by rw [hno]; simp), if_neg (by rw [hno]; simp)]
    have all_rem : ∀ (G : List Bool) (l' : List (Oper × Nat)), rems G (Array.replicate l.toArray.size false) l' = l'.map fun x => (G.getD x.2 false, x.2, x.1) := fun G l' => by
      unfold rems
      rw [List.filter_eq_self.2 fun x _ => by rw [hno]; rfl]
    constructor
    · have h1 := sk_sound (F := F.map (· == 1)) hBe l 0 F e0 _ (fun j => by
        rw [Nat.zero_add, List.getD_eq_getElem?_getD, List.getD_eq_getElem?_getD, List.getElem?_map]
        cases F[j]? <;> rfl) (hv2 _ (below_drawn _ _))
      rw [all_rem]
      exact h1
    · have h1 := op_sound (hv1 _ (below_drawn _ _))
      unfold stepSK
      rw [hg]
      rw [if_pos (show wants none l.toArray e0 = true from rfl), if_pos rfl]
      refine h1.mono fun v w' ⟨h2, h3⟩ => ⟨h2, ?_⟩
      rw [rems_set hop (by simp), all_rem, all_rem, ← List.map_append]
      refine sk_sound2 hBe _ (F.take p ++ F.drop (p + 1)) _ _ (fun j x hx => ?_) ?_
      · have hx' := hx
        rw [off_nat]
        rw [List.getElem?_append] at hx
        split at hx
        · rename_i hj
          simp only [List.length_take, List.length_zipIdx] at hj
          rw [List.getElem?_take] at hx
          split at hx
          · rename_i hjp
            rw [List.getElem?_zipIdx] at hx
            simp only [Option.map_eq_some_iff] at hx
            obtain ⟨y, hy, rfl⟩ := hx
            simp only [Nat.zero_add]
            rw [if_neg (by omega), List.getD_eq_getElem?_getD, List.getElem?_append_left (by rw [List.length_take]; omega), List.getElem?_take, if_pos hjp, ← List.getD_eq_getElem?_getD]
          · cases hx
        · rename_i hj
          simp only [List.length_take, List.length_zipIdx, List.size_toArray] at hj hx
          have hmin : min p l.length = p := by omega
          rw [hmin] at hj hx
          rw [List.getElem?_drop, List.getElem?_zipIdx] at hx
          simp only [Option.map_eq_some_iff] at hx
          obtain ⟨y, hy, rfl⟩ := hx
          simp only [Nat.zero_add]
          rw [if_neg (by omega), List.getD_eq_getElem?_getD, List.getElem?_append_right (by rw [List.length_take]; omega), List.length_take, hl, hmin, List.getElem?_drop, ← List.getD_eq_getElem?_getD]
      · rw [List.map_append, List.map_take, List.map_drop, List.zipIdx_map_fst]
        exact h3
  · exact Nat.le_trans (List.length_filter_le _ _) (by simp)
end Go.Proofs.RV

