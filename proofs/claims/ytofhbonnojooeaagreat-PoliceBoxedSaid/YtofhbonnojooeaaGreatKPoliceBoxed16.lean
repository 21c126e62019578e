/-
  Texts that the law stands on, part 16.
-/
import Derived.Test.YtofhbonnojooeaaGreatKPoliceBoxed15
namespace Go.Proofs.YtofhbonnojooeaaGreat
open Go Go.RowKit Go.Proofs.RV
set_option linter.unusedSimpArgs false
set_option linter.unusedVariables false
set_option maxRecDepth 10000
set_option maxHeartbeats 4000000
structure WinW (w : World) (wi q b cap : Nat) (ns th num : Int) (sl : List SlotM) (tot : Int) : Prop where
  blk : Blk w wi 241 [.pointer (some ⟨q, 0, none⟩), .int .i64 ns, .int .i64 th, .int .i64 num]
  sk : SketchW w q b cap sl tot
  nsr : 1 ≤ ns ∧ ns ≤ 4611686018427387903
  thr : 1 ≤ th ∧ th ≤ 4611686018427387903
def trio (a b c : Nat) (k : Nat) : Prop := k = a ∨ k = b ∨ k = c
theorem SketchW.mod {w w' : World} {S : Nat → Prop} {q b cap : Nat} {sl : List SlotM} {total : Int} (h : SketchW w q b cap sl total) (hm : Mod S w w') (h1 : ¬ S q) (h2 : ¬ S b) : SketchW w' q b cap sl total := by
  obtain ⟨rest, g1, g2⟩ := h.row
  exact ⟨hm.blk h.blk h1, ⟨rest, hm.blk g1 h2, g2⟩, h.plen, h.capr, h.le, h.cb⟩
theorem WinW.mod {w w' : World} {S : Nat → Prop} {wi q b cap : Nat} {ns th num : Int} {sl : List SlotM} {tot : Int} (h : WinW w wi q b cap ns th num sl tot) (hm : Mod S w w') (h1 : ¬ S wi) (h2 : ¬ S q) (h3 : ¬ S b) : WinW w' wi q b cap ns th num sl tot :=
  ⟨hm.blk h.blk h1, h.sk.mod hm h2 h3, h.nsr, h.thr⟩
theorem WinW.more {w w' : World} {wi q b cap : Nat} {ns th num : Int} {sl : List SlotM} {tot : Int} (h : WinW w wi q b cap ns th num sl tot) (hm : More w w') : WinW w' wi q b cap ns th num sl tot := ⟨h.blk.more hm, h.sk.more hm, h.nsr, h.thr⟩
theorem WinW.ne {w : World} {wi q b cap : Nat} {ns th num : Int} {sl : List SlotM} {tot : Int} (h : WinW w wi q b cap ns th num sl tot) : wi ≠ q ∧ wi ≠ b := by
  obtain ⟨rest, g1, g2⟩ := h.sk.row
  constructor
  · intro e
    have h1 := h.blk
    rw [e] at h1
    exact absurd (blk_ty h1 h.sk.blk) (by decide)
  · intro e
    have h1 := h.blk
    rw [e] at h1
    exact absurd (blk_ty h1 g1) (by decide)
def winNo (now ns : Int) : Int := Int.tdiv (timeM now) ns
def winAt (now ns num : Int) (sl : List SlotM) (tot : Int) : Int × List SlotM × Int := if num < winNo now ns then (winNo now ns, [], 0) else (num, sl, tot)
noncomputable def heavyM (cap : Nat) (th : Int) (sl : List SlotM) (p : PrefM) (n : Int) : Bool := decide (th ≤ (slotA cap sl p n).count - (slotA cap sl p n).err)
theorem slotA_in {w : World} {q b cap : Nat} {sl : List SlotM} {tot : Int} (h : SketchW w q b cap sl tot) (p : PrefM) (n : Int) : slotA cap sl p n ∈ addS cap sl p n := by
  have hlt : (seatS cap sl p).2 < (seatS cap sl p).1.length := by
    have hcap := h.capr
    unfold seatS
    split
    · rename_i h0
      rcases slotIdx_range p sl 0 with h1 | h1
      · omega
      · show (slotIdx p sl 0).toNat < sl.length
        omega
    · split
      · simp
      · rename_i h1
        have := leastM_lt sl sl.length (by omega)
        show leastM sl sl.length < (sl.set _ _).length
        rw [List.length_set]
        exact this
  unfold addS
  rw [List.mem_iff_getElem?]
  exact ⟨_, List.getElem?_set_self hlt⟩
theorem winNo_range {now ns : Int} (h : 1 ≤ ns) : 0 ≤ winNo now ns ∧ winNo now ns ≤ 4611686018427387903 := by
  have ht : 0 ≤ timeM now ∧ timeM now ≤ 4611686018427387903 := by unfold timeM; omega
  unfold winNo
  rw [Int.tdiv_eq_ediv_of_nonneg ht.1]
  exact ⟨Int.ediv_nonneg ht.1 (by omega), Int.le_trans (Int.ediv_le_self _ ht.1) ht.2⟩
theorem window_add (w : World) (wi q b cap : Nat) (ns th num : Int) (sl : List SlotM) (tot : Int) (h : WinW w wi q b cap ns th num sl tot) (now n : Int) (p : PrefM) (hp : p.addr.length = 7) :
    Ret Tryz.prog 54 #[.pointer (some ⟨wi, 0, none⟩), .int .i64 now, .agg p.cells.toArray, .int .i64 n] w fun v w' => v = .bool (heavyM cap th (winAt now ns num sl tot).2.1 p n) ∧
      WinW w' wi q b cap ns th (winAt now ns num sl tot).1 (addS cap (winAt now ns num sl tot).2.1 p n) (addM (winAt now ns num sl tot).2.2 (countM n)) ∧ Mod (trio wi q b) w w' := by
  refine ret_of Tryz.func54 rfl (by kernel_rfl) (Nat.le_of_ble_eq_true (by kernel_rfl)) ?_
  have hm1 := more_alloc w (.cells p.cells.toArray 37)
  have hb1 := Blk.new w 37 p.cells.toArray
  simp -implicitDefEqProofs (maxSteps := 1000000) only [↓zvN, zvU, ↓zvE, zvM, init, one, Value.cells, simprocAttr, tyF]
  obtain ⟨w1, hw1⟩ : ∃ w1, w.alloc (.cells p.cells.toArray 37) = w1 := ⟨_, rfl⟩
  rw [hw1] at hm1 hb1 ⊢
  clear hw1
  rw [List.toList_toArray] at hb1
  obtain ⟨z, hz⟩ : ∃ z, w.heap.size = z := ⟨_, rfl⟩
  have hwil : wi < z := by rw [← hz]; exact h.blk.lt
  have hql : q < z := by rw [← hz]; exact h.sk.blk.lt
  have hbl : b < z := by rw [← hz]; exact h.sk.blt
  rw [hz] at hb1 ⊢
  have h1 := h.more hm1
  obtain ⟨n1, n2⟩ := h.ne
  obtain ⟨ns0, ns1⟩ := h.nsr
  have hnr := winNo_range (now := now) ns0
  have c0 : ∀ {w' : World} {nm : Int}, Blk w' wi 241 [.pointer (some ⟨q, 0, none⟩), .int .i64 ns, .int .i64 th, .int .i64 nm] → w'.cell? ⟨wi, 0, none⟩ = some (.pointer (some ⟨q, 0, none⟩)) ∧ w'.cell? ⟨wi, 1, none⟩ = some (.int .i64 ns) ∧ w'.cell? ⟨wi, 2, none⟩ = some (.int .i64 th) ∧ w'.cell? ⟨wi, 3, none⟩ = some (.int .i64 nm) := fun hb => by
    refine ⟨?_, ?_, ?_, ?_⟩ <;> rw [hb.cell] <;> rfl
  have nz : ¬ ns = 0 := by omega
  have et : (if 0 < (if 4611686018427387903 < now then 4611686018427387903 else now) then (if 4611686018427387903 < now then 4611686018427387903 else now) else 0) = timeM now := by
    unfold timeM
    split <;> split at * <;> omega
  have eq1 : IntKind.i64.wrap (Int.tdiv (timeM now) ns) = winNo now ns := by unfold winNo at hnr ⊢; exact w64 (by omega) (by omega)
  obtain ⟨W, hW⟩ : ∃ W, winNo now ns = W := ⟨_, rfl⟩
  rw [hW] at eq1 hnr
  by_cases hlt : num < W
  · have hat : winAt now ns num sl tot = (W, [], 0) := by unfold winAt; rw [hW, if_pos hlt]
    rw [hat]
    simp -implicitDefEqProofs (maxSteps := 1000000) only [↓zvN, zvU, ↓zvE, zvM, init, one, Value.cells, simprocAttr, tyF, (c0 h1.blk).2.1, nz, et, eq1, (c0 h1.blk).2.2.2, hlt]
    refine st_cell (i := 3) (v := .int .i64 W) h1.blk (by simp) rfl fun w2 i2 k2 => ?_
    rw [s2_undef]
    have s2 := h1.sk.wr i2 n1.symm n2.symm
    have b2 := i2.blk hb1 (by omega)
    simp -implicitDefEqProofs (maxSteps := 1000000) only [↓zvN, zvU, ↓zvE, zvM, init, one, Value.cells, simprocAttr, tyF, (c0 k2).1]
    refine call_ok Tryz.call133 (sketch_reset w2 q b cap sl tot s2) ?_
    rintro _ w3 ⟨rfl, s3, m3⟩
    have h3 : WinW w3 wi q b cap ns th W [] 0 := ⟨m3.blk k2 (by rintro (e | e) <;> omega), s3, h.nsr, h.thr⟩
    have b3 := m3.blk b2 (by rintro (e | e) <;> omega)
    have m03 : Mod (trio wi q b) w w3 := ((Mod.of_more hm1).trans (Mod.of_wr i2 (.inl rfl))).trans (m3.mono fun k _ hk => .inr hk)
    simp -implicitDefEqProofs (maxSteps := 1000000) only [↓zvN, zvU, ↓zvE, zvM, init, one, Value.cells, simprocAttr, tyF]
    have hFl : ∀ k, k = wi ∨ k = z → k < (w3).heap.size := by rintro k (rfl | rfl); exact (h3).blk.lt; exact (b3).lt
    have hFo : ∀ k, k = wi ∨ k = z → ¬ duo2 q b k := by rintro k (rfl | rfl) (e | e) <;> omega
    have hwr : ∀ k, k = wi ∨ k = z → k ≠ q ∧ k ≠ b := by rintro k (rfl | rfl) <;> omega
    refine draw_float 0 (KeepF 0 fun k => k = wi ∨ k = z) [0, 0, 0, 2, 2, 0, 1, 1, 1] 6 7 [[], [0], [0, 1], [0, 1, 2], [], [], [0, 1, 2, 3, 4, 5], [], [0, 1, 2, 3, 4, 5, 6, 7]] mixed (by kernel_rfl) (by kernel_rfl) rfl rfl rfl (KeepF.refl _ _ _) (fun w' h => KeepF.of_more h (by omega) hFl) (fun w' h => h.1) ?_ ?_
    · intro w4 hm4
      have hm5 := more_alloc w4 (.cells slotZ.cells.toArray 253)
      have hb5 := Blk.new w4 253 slotZ.cells.toArray
      simp -implicitDefEqProofs (maxSteps := 1000000) only [↓zvN, zvU, ↓zqD, ↓sk_nil, ↓sk_cons, ↓sk_guard, ↓sk_zero, ↓sk_one, ↓sk_two, ↓zvE, zvM, init, one, Value.cells, simprocAttr, tyF, List.take_succ_cons, List.take_zero, List.drop_succ_cons, List.drop_zero, List.nil_append, List.cons_append, zerSlot]
      obtain ⟨w5, hw5⟩ : ∃ w5, w4.alloc (.cells slotZ.cells.toArray 253) = w5 := ⟨_, rfl⟩
      rw [hw5] at hm5 hb5 ⊢
      clear hw5
      rw [List.toList_toArray] at hb5
      obtain ⟨r, hr⟩ : ∃ r, w4.heap.size = r := ⟨_, rfl⟩
      have hrz : ∀ k, k < (w3).heap.size → k < r := fun k hk => by have := hm4.size; omega
      rw [hr] at hb5 ⊢
      have hm35 := hm4.trans hm5
      have hk5 : KeepF 0 (fun k => k = wi ∨ k = z) w3 w5 := KeepF.of_more hm35 (by omega) hFl
      refine ⟨hk5, ?_⟩
      refine read_ok (.pointer (some ⟨q, 0, none⟩)) rfl (fun wr hkr => ?_) ?_
      · have hs := hkr.blk (.inl rfl) (h3).blk
        simp -implicitDefEqProofs (maxSteps := 1000000) only [↓zvN, zvU, ↓zvE, zvM, init, one, Value.cells, simprocAttr, tyF, (c0 hs).1]
      simp -implicitDefEqProofs (maxSteps := 1000000) only [↓zvN, zvU, ↓zqD, ↓sk_nil, ↓sk_cons, ↓sk_guard, ↓sk_zero, ↓sk_one, ↓sk_two, ↓zvE, zvM, init, one, Value.cells, simprocAttr, tyF]
      refine read_ok (.agg p.cells.toArray) rfl (fun wr hkr => ?_) ?_
      · have hb := hkr.blk (.inr rfl) b3
        simp -implicitDefEqProofs (maxSteps := 1000000) only [↓zvN, zvU, ↓zvE, zvM, init, one, Value.cells, simprocAttr, tyF, hb.all_eq 8 (by simp [PrefM.cells, hp])]
      simp -implicitDefEqProofs (maxSteps := 1000000) only [↓zvN, zvU, ↓zqD, ↓sk_nil, ↓sk_cons, ↓sk_guard, ↓sk_zero, ↓sk_one, ↓sk_two, ↓zvE, zvM, init, one, Value.cells, simprocAttr, tyF]
      have h5 := (h3).more hm35
      refine call_ok Tryz.call134 (sketch_add w5 q b cap [] 0 h5.sk p hp n) ?_
      rintro _ w6 ⟨rfl, s6, m6⟩
      have hk6 := hk5.next m6 hFo (fun x hx => by omega) (fun x hx => by have := hFl x hx; have := hm35.size; omega) (by omega)
      have rq : ¬ duo2 q b r := by
        have g1 := hrz q (h3).sk.blk.lt
        have g2 := hrz b (h3).sk.blt
        rintro (e | e) <;> omega
      have b6 := m6.blk hb5 rq
      have h6 : WinW w6 wi q b cap ns th W (addS cap [] p n) (addM 0 (countM n)) := ⟨hk6.blk (.inl rfl) (h3).blk, s6, (h3).nsr, (h3).thr⟩
      have m06 : Mod (trio wi q b) w w6 := ((m03).trans (Mod.of_more hm35)).trans (m6.mono fun k _ hk => .inr hk)
      simp -implicitDefEqProofs (maxSteps := 1000000) only [↓zvN, zvU, ↓zqD, ↓sk_nil, ↓sk_cons, ↓sk_guard, ↓sk_zero, ↓sk_one, ↓sk_two, ↓zvE, zvM, init, one, Value.cells, simprocAttr, tyF]
      refine ⟨hk6, ?_⟩
      have hin := slotA_in (tot := 0) (cap := cap) (h3).sk p n
      obtain ⟨hc0, hc1, hc2, hc3⟩ := (h6).sk.cb _ hin
      have hxl := (h6).sk.plen _ hin
      unfold heavyM
      obtain ⟨x, hx⟩ : ∃ x, slotA cap [] p n = x := ⟨_, rfl⟩
      rw [hx] at hc0 hc1 hc2 hc3 hxl ⊢
      refine st_all b6 (by rw [List.size_toArray]; exact SlotM.len hxl) rfl (by rw [List.toList_toArray]; exact SlotM.one _) fun w7 i7 k7 => ?_
      try rw [s2_undef]
      rw [List.toList_toArray] at k7
      have hk7 := ((hk6).next (Mod.of_wr (S := fun k => k = r) i7 rfl) (fun x hx hh => by have := hrz x (hFl x hx); omega) (fun x hx => by omega) (fun x hx => by have := hFl x hx; have := (hk6).1.size; have := (b6).lt; have := hrz x (hFl x hx); omega) (by omega))
      have h7 : WinW w7 wi q b cap ns th W (addS cap [] p n) (addM 0 (countM n)) := (h6).mod (S := fun k => k = r) (Mod.of_wr i7 rfl) (fun e => by have := hrz wi (h3).blk.lt; omega) (fun e => by have := hrz q (h3).sk.blk.lt; omega) (fun e => by have := hrz b (h3).sk.blt; omega)
      have m07 : Mod (trio wi q b) w w7 := (m06).next (Mod.of_wr (S := fun k => k = r) i7 rfl) (fun k hk e => by have := (m03).size; have := hrz k (by omega); omega)
      have cr8 : w7.cell? ⟨r, 8, none⟩ = some (.int .i64 x.count) := by rw [k7.cell]; exact slot_cnt hxl
      have cr9 : w7.cell? ⟨r, 9, none⟩ = some (.int .i64 x.err) := by rw [k7.cell]; exact slot_err hxl
      have lr7 := k7.lt
      have lw7 := h7.blk.lt
      have ex : IntKind.i64.wrap (x.count - x.err) = x.count - x.err := w64 (by omega) (by omega)
      have ct7 := (c0 h7.blk).2.2.1
      simp -implicitDefEqProofs (maxSteps := 1000000) only [↓zvN, zvU, ↓zqD, ↓sk_nil, ↓sk_cons, ↓sk_guard, ↓sk_zero, ↓sk_one, ↓sk_two, ↓zvE, zvM, init, one, Value.cells, simprocAttr, tyF]
      refine ⟨hk7, ?_⟩
      try simp -implicitDefEqProofs (maxSteps := 1000000) only [↓zvN, zvU, ↓zvE, zvM, init, one, Value.cells, simprocAttr, tyF]
      refine draw_calm mixed (by kernel_rfl) ?_
      simp -implicitDefEqProofs (maxSteps := 1000000) only [↓zvN, zvU, ↓zqD, ↓zvE, zvM, init, one, Value.cells, simprocAttr, tyF, cr8, cr9, ct7, lr7, lw7, ex]
      intro w8 hm8
      try simp -implicitDefEqProofs (maxSteps := 1000000) only [↓zvN, zvU, ↓zvE, zvM, init, one, Value.cells, simprocAttr, tyF, p_nil]
      exact ⟨h7.more hm8, m07.trans (Mod.of_more hm8)⟩
    · intro w4 hm4
      have hk4 : KeepF 0 (fun k => k = wi ∨ k = z) w3 w4 := KeepF.of_more hm4 (by omega) hFl
      simp -implicitDefEqProofs (maxSteps := 1000000) only [↓zvN, zvU, ↓zqD, ↓sk_nil, ↓sk_cons, ↓sk_guard, ↓sk_zero, ↓sk_one, ↓sk_two, ↓zvE, zvM, init, one, Value.cells, simprocAttr, tyF]
      refine read_ok (.pointer (some ⟨q, 0, none⟩)) rfl (fun wr hkr => ?_) ?_
      · have hs := hkr.blk (.inl rfl) (h3).blk
        simp -implicitDefEqProofs (maxSteps := 1000000) only [↓zvN, zvU, ↓zvE, zvM, init, one, Value.cells, simprocAttr, tyF, (c0 hs).1]
      simp -implicitDefEqProofs (maxSteps := 1000000) only [↓zvN, zvU, ↓zqD, ↓sk_nil, ↓sk_cons, ↓sk_guard, ↓sk_zero, ↓sk_one, ↓sk_two, ↓zvE, zvM, init, one, Value.cells, simprocAttr, tyF]
      refine read_ok (.agg p.cells.toArray) rfl (fun wr hkr => ?_) ?_
      · have hb := hkr.blk (.inr rfl) b3
        simp -implicitDefEqProofs (maxSteps := 1000000) only [↓zvN, zvU, ↓zvE, zvM, init, one, Value.cells, simprocAttr, tyF, hb.all_eq 8 (by simp [PrefM.cells, hp])]
      simp -implicitDefEqProofs (maxSteps := 1000000) only [↓zvN, zvU, ↓zqD, ↓sk_nil, ↓sk_cons, ↓sk_guard, ↓sk_zero, ↓sk_one, ↓sk_two, ↓zvE, zvM, init, one, Value.cells, simprocAttr, tyF]
      have h4 := (h3).more hm4
      refine call_ok Tryz.call134 (sketch_add w4 q b cap [] 0 h4.sk p hp n) ?_
      rintro _ w5 ⟨rfl, s5, m5⟩
      have hk5 := hk4.next m5 hFo (fun x hx => by omega) (fun x hx => by have := hFl x hx; have := hm4.size; omega) (by omega)
      have hm6 := more_alloc w5 (.cells slotZ.cells.toArray 253)
      have hb6 := Blk.new w5 253 slotZ.cells.toArray
      simp -implicitDefEqProofs (maxSteps := 1000000) only [↓zvN, zvU, ↓zqD, ↓sk_nil, ↓sk_cons, ↓sk_guard, ↓sk_zero, ↓sk_one, ↓sk_two, ↓zvE, zvM, init, one, Value.cells, simprocAttr, tyF]
      refine ⟨hk5, ?_⟩
      simp -implicitDefEqProofs (maxSteps := 1000000) only [↓zvN, zvU, ↓zqD, ↓sk_nil, ↓sk_cons, ↓sk_guard, ↓sk_zero, ↓sk_one, ↓sk_two, ↓zvE, zvM, init, one, Value.cells, simprocAttr, tyF, zerSlot]
      obtain ⟨w6, hw6⟩ : ∃ w6, w5.alloc (.cells slotZ.cells.toArray 253) = w6 := ⟨_, rfl⟩
      rw [hw6] at hm6 hb6 ⊢
      clear hw6
      rw [List.toList_toArray] at hb6
      obtain ⟨r, hr⟩ : ∃ r, w5.heap.size = r := ⟨_, rfl⟩
      have hrz : ∀ k, k < (w3).heap.size → k < r := fun k hk => by have := hm4.size; have := m5.size; omega
      rw [hr] at hb6 ⊢
      have hk6 : KeepF 0 (fun k => k = wi ∨ k = z) w3 w6 := hk5.more hm6 (fun x hx => by have := hrz x (hFl x hx); omega) (by omega)
      refine ⟨hk6, ?_⟩
      have h5 : WinW w5 wi q b cap ns th W (addS cap [] p n) (addM 0 (countM n)) := ⟨hk5.blk (.inl rfl) (h3).blk, s5, (h3).nsr, (h3).thr⟩
      have h6 := h5.more hm6
      have m06 : Mod (trio wi q b) w w6 := (((m03).trans (Mod.of_more hm4)).trans (m5.mono fun k _ hk => .inr hk)).trans (Mod.of_more hm6)
      have hin := slotA_in (tot := 0) (cap := cap) (h3).sk p n
      obtain ⟨hc0, hc1, hc2, hc3⟩ := (h6).sk.cb _ hin
      have hxl := (h6).sk.plen _ hin
      unfold heavyM
      obtain ⟨x, hx⟩ : ∃ x, slotA cap [] p n = x := ⟨_, rfl⟩
      rw [hx] at hc0 hc1 hc2 hc3 hxl ⊢
      refine st_all hb6 (by rw [List.size_toArray]; exact SlotM.len hxl) rfl (by rw [List.toList_toArray]; exact SlotM.one _) fun w7 i7 k7 => ?_
      try rw [s2_undef]
      rw [List.toList_toArray] at k7
      have hk7 := ((hk6).next (Mod.of_wr (S := fun k => k = r) i7 rfl) (fun x hx hh => by have := hrz x (hFl x hx); omega) (fun x hx => by omega) (fun x hx => by have := hFl x hx; have := (hk6).1.size; have := (hb6).lt; have := hrz x (hFl x hx); omega) (by omega))
      have h7 : WinW w7 wi q b cap ns th W (addS cap [] p n) (addM 0 (countM n)) := (h6).mod (S := fun k => k = r) (Mod.of_wr i7 rfl) (fun e => by have := hrz wi (h3).blk.lt; omega) (fun e => by have := hrz q (h3).sk.blk.lt; omega) (fun e => by have := hrz b (h3).sk.blt; omega)
      have m07 : Mod (trio wi q b) w w7 := (m06).next (Mod.of_wr (S := fun k => k = r) i7 rfl) (fun k hk e => by have := (m03).size; have := hrz k (by omega); omega)
      have cr8 : w7.cell? ⟨r, 8, none⟩ = some (.int .i64 x.count) := by rw [k7.cell]; exact slot_cnt hxl
      have cr9 : w7.cell? ⟨r, 9, none⟩ = some (.int .i64 x.err) := by rw [k7.cell]; exact slot_err hxl
      have lr7 := k7.lt
      have lw7 := h7.blk.lt
      have ex : IntKind.i64.wrap (x.count - x.err) = x.count - x.err := w64 (by omega) (by omega)
      have ct7 := (c0 h7.blk).2.2.1
      simp -implicitDefEqProofs (maxSteps := 1000000) only [↓zvN, zvU, ↓zqD, ↓sk_nil, ↓sk_cons, ↓sk_guard, ↓sk_zero, ↓sk_one, ↓sk_two, ↓zvE, zvM, init, one, Value.cells, simprocAttr, tyF]
      refine ⟨hk7, ?_⟩
      try simp -implicitDefEqProofs (maxSteps := 1000000) only [↓zvN, zvU, ↓zvE, zvM, init, one, Value.cells, simprocAttr, tyF]
      refine draw_calm mixed (by kernel_rfl) ?_
      simp -implicitDefEqProofs (maxSteps := 1000000) only [↓zvN, zvU, ↓zqD, ↓zvE, zvM, init, one, Value.cells, simprocAttr, tyF, cr8, cr9, ct7, lr7, lw7, ex]
      intro w8 hm8
      try simp -implicitDefEqProofs (maxSteps := 1000000) only [↓zvN, zvU, ↓zvE, zvM, init, one, Value.cells, simprocAttr, tyF, p_nil]
      exact ⟨h7.more hm8, m07.trans (Mod.of_more hm8)⟩
  · have hat : winAt now ns num sl tot = (num, sl, tot) := by unfold winAt; rw [hW, if_neg hlt]
    rw [hat]
    simp -implicitDefEqProofs (maxSteps := 1000000) only [↓zvN, zvU, ↓zvE, zvM, init, one, Value.cells, simprocAttr, tyF, (c0 h1.blk).2.1, nz, et, eq1, (c0 h1.blk).2.2.2, hlt]
    have m03 : Mod (trio wi q b) w w1 := Mod.of_more hm1
    have hFl : ∀ k, k = wi ∨ k = z → k < (w1).heap.size := by rintro k (rfl | rfl); exact (h1).blk.lt; exact (hb1).lt
    have hFo : ∀ k, k = wi ∨ k = z → ¬ duo2 q b k := by rintro k (rfl | rfl) (e | e) <;> omega
    have hwr : ∀ k, k = wi ∨ k = z → k ≠ q ∧ k ≠ b := by rintro k (rfl | rfl) <;> omega
    refine draw_float 0 (KeepF 0 fun k => k = wi ∨ k = z) [0, 0, 0, 2, 2, 0, 1, 1, 1] 6 7 [[], [0], [0, 1], [0, 1, 2], [], [], [0, 1, 2, 3, 4, 5], [], [0, 1, 2, 3, 4, 5, 6, 7]] mixed (by kernel_rfl) (by kernel_rfl) rfl rfl rfl (KeepF.refl _ _ _) (fun w' h => KeepF.of_more h (by omega) hFl) (fun w' h => h.1) ?_ ?_
    · intro w4 hm4
      have hm5 := more_alloc w4 (.cells slotZ.cells.toArray 253)
      have hb5 := Blk.new w4 253 slotZ.cells.toArray
      simp -implicitDefEqProofs (maxSteps := 1000000) only [↓zvN, zvU, ↓zqD, ↓sk_nil, ↓sk_cons, ↓sk_guard, ↓sk_zero, ↓sk_one, ↓sk_two, ↓zvE, zvM, init, one, Value.cells, simprocAttr, tyF, List.take_succ_cons, List.take_zero, List.drop_succ_cons, List.drop_zero, List.nil_append, List.cons_append, zerSlot]
      obtain ⟨w5, hw5⟩ : ∃ w5, w4.alloc (.cells slotZ.cells.toArray 253) = w5 := ⟨_, rfl⟩
      rw [hw5] at hm5 hb5 ⊢
      clear hw5
      rw [List.toList_toArray] at hb5
      obtain ⟨r, hr⟩ : ∃ r, w4.heap.size = r := ⟨_, rfl⟩
      have hrz : ∀ k, k < (w1).heap.size → k < r := fun k hk => by have := hm4.size; omega
      rw [hr] at hb5 ⊢
      have hm35 := hm4.trans hm5
      have hk5 : KeepF 0 (fun k => k = wi ∨ k = z) w1 w5 := KeepF.of_more hm35 (by omega) hFl
      refine ⟨hk5, ?_⟩
      refine read_ok (.pointer (some ⟨q, 0, none⟩)) rfl (fun wr hkr => ?_) ?_
      · have hs := hkr.blk (.inl rfl) (h1).blk
        simp -implicitDefEqProofs (maxSteps := 1000000) only [↓zvN, zvU, ↓zvE, zvM, init, one, Value.cells, simprocAttr, tyF, (c0 hs).1]
      simp -implicitDefEqProofs (maxSteps := 1000000) only [↓zvN, zvU, ↓zqD, ↓sk_nil, ↓sk_cons, ↓sk_guard, ↓sk_zero, ↓sk_one, ↓sk_two, ↓zvE, zvM, init, one, Value.cells, simprocAttr, tyF]
      refine read_ok (.agg p.cells.toArray) rfl (fun wr hkr => ?_) ?_
      · have hb := hkr.blk (.inr rfl) hb1
        simp -implicitDefEqProofs (maxSteps := 1000000) only [↓zvN, zvU, ↓zvE, zvM, init, one, Value.cells, simprocAttr, tyF, hb.all_eq 8 (by simp [PrefM.cells, hp])]
      simp -implicitDefEqProofs (maxSteps := 1000000) only [↓zvN, zvU, ↓zqD, ↓sk_nil, ↓sk_cons, ↓sk_guard, ↓sk_zero, ↓sk_one, ↓sk_two, ↓zvE, zvM, init, one, Value.cells, simprocAttr, tyF]
      have h5 := (h1).more hm35
      refine call_ok Tryz.call134 (sketch_add w5 q b cap sl tot h5.sk p hp n) ?_
      rintro _ w6 ⟨rfl, s6, m6⟩
      have hk6 := hk5.next m6 hFo (fun x hx => by omega) (fun x hx => by have := hFl x hx; have := hm35.size; omega) (by omega)
      have rq : ¬ duo2 q b r := by
        have g1 := hrz q (h1).sk.blk.lt
        have g2 := hrz b (h1).sk.blt
        rintro (e | e) <;> omega
      have b6 := m6.blk hb5 rq
      have h6 : WinW w6 wi q b cap ns th num (addS cap sl p n) (addM tot (countM n)) := ⟨hk6.blk (.inl rfl) (h1).blk, s6, (h1).nsr, (h1).thr⟩
      have m06 : Mod (trio wi q b) w w6 := ((m03).trans (Mod.of_more hm35)).trans (m6.mono fun k _ hk => .inr hk)
      simp -implicitDefEqProofs (maxSteps := 1000000) only [↓zvN, zvU, ↓zqD, ↓sk_nil, ↓sk_cons, ↓sk_guard, ↓sk_zero, ↓sk_one, ↓sk_two, ↓zvE, zvM, init, one, Value.cells, simprocAttr, tyF]
      refine ⟨hk6, ?_⟩
      have hin := slotA_in (tot := tot) (cap := cap) (h1).sk p n
      obtain ⟨hc0, hc1, hc2, hc3⟩ := (h6).sk.cb _ hin
      have hxl := (h6).sk.plen _ hin
      unfold heavyM
      obtain ⟨x, hx⟩ : ∃ x, slotA cap sl p n = x := ⟨_, rfl⟩
      rw [hx] at hc0 hc1 hc2 hc3 hxl ⊢
      refine st_all b6 (by rw [List.size_toArray]; exact SlotM.len hxl) rfl (by rw [List.toList_toArray]; exact SlotM.one _) fun w7 i7 k7 => ?_
      try rw [s2_undef]
      rw [List.toList_toArray] at k7
      have hk7 := ((hk6).next (Mod.of_wr (S := fun k => k = r) i7 rfl) (fun x hx hh => by have := hrz x (hFl x hx); omega) (fun x hx => by omega) (fun x hx => by have := hFl x hx; have := (hk6).1.size; have := (b6).lt; have := hrz x (hFl x hx); omega) (by omega))
      have h7 : WinW w7 wi q b cap ns th num (addS cap sl p n) (addM tot (countM n)) := (h6).mod (S := fun k => k = r) (Mod.of_wr i7 rfl) (fun e => by have := hrz wi (h1).blk.lt; omega) (fun e => by have := hrz q (h1).sk.blk.lt; omega) (fun e => by have := hrz b (h1).sk.blt; omega)
      have m07 : Mod (trio wi q b) w w7 := (m06).next (Mod.of_wr (S := fun k => k = r) i7 rfl) (fun k hk e => by have := (m03).size; have := hrz k (by omega); omega)
      have cr8 : w7.cell? ⟨r, 8, none⟩ = some (.int .i64 x.count) := by rw [k7.cell]; exact slot_cnt hxl
      have cr9 : w7.cell? ⟨r, 9, none⟩ = some (.int .i64 x.err) := by rw [k7.cell]; exact slot_err hxl
      have lr7 := k7.lt
      have lw7 := h7.blk.lt
      have ex : IntKind.i64.wrap (x.count - x.err) = x.count - x.err := w64 (by omega) (by omega)
      have ct7 := (c0 h7.blk).2.2.1
      simp -implicitDefEqProofs (maxSteps := 1000000) only [↓zvN, zvU, ↓zqD, ↓sk_nil, ↓sk_cons, ↓sk_guard, ↓sk_zero, ↓sk_one, ↓sk_two, ↓zvE, zvM, init, one, Value.cells, simprocAttr, tyF]
      refine ⟨hk7, ?_⟩
      try simp -implicitDefEqProofs (maxSteps := 1000000) only [↓zvN, zvU, ↓zvE, zvM, init, one, Value.cells, simprocAttr, tyF]
      refine draw_calm mixed (by kernel_rfl) ?_
      simp -implicitDefEqProofs (maxSteps := 1000000) only [↓zvN, zvU, ↓zqD, ↓zvE, zvM, init, one, Value.cells, simprocAttr, tyF, cr8, cr9, ct7, lr7, lw7, ex]
      intro w8 hm8
      try simp -implicitDefEqProofs (maxSteps := 1000000) only [↓zvN, zvU, ↓zvE, zvM, init, one, Value.cells, simprocAttr, tyF, p_nil]
      exact ⟨h7.more hm8, m07.trans (Mod.of_more hm8)⟩
    · intro w4 hm4
      have hk4 : KeepF 0 (fun k => k = wi ∨ k = z) w1 w4 := KeepF.of_more hm4 (by omega) hFl
      simp -implicitDefEqProofs (maxSteps := 1000000) only [↓zvN, zvU, ↓zqD, ↓sk_nil, ↓sk_cons, ↓sk_guard, ↓sk_zero, ↓sk_one, ↓sk_two, ↓zvE, zvM, init, one, Value.cells, simprocAttr, tyF]
      refine read_ok (.pointer (some ⟨q, 0, none⟩)) rfl (fun wr hkr => ?_) ?_
      · have hs := hkr.blk (.inl rfl) (h1).blk
        simp -implicitDefEqProofs (maxSteps := 1000000) only [↓zvN, zvU, ↓zvE, zvM, init, one, Value.cells, simprocAttr, tyF, (c0 hs).1]
      simp -implicitDefEqProofs (maxSteps := 1000000) only [↓zvN, zvU, ↓zqD, ↓sk_nil, ↓sk_cons, ↓sk_guard, ↓sk_zero, ↓sk_one, ↓sk_two, ↓zvE, zvM, init, one, Value.cells, simprocAttr, tyF]
      refine read_ok (.agg p.cells.toArray) rfl (fun wr hkr => ?_) ?_
      · have hb := hkr.blk (.inr rfl) hb1
        simp -implicitDefEqProofs (maxSteps := 1000000) only [↓zvN, zvU, ↓zvE, zvM, init, one, Value.cells, simprocAttr, tyF, hb.all_eq 8 (by simp [PrefM.cells, hp])]
      simp -implicitDefEqProofs (maxSteps := 1000000) only [↓zvN, zvU, ↓zqD, ↓sk_nil, ↓sk_cons, ↓sk_guard, ↓sk_zero, ↓sk_one, ↓sk_two, ↓zvE, zvM, init, one, Value.cells, simprocAttr, tyF]
      have h4 := (h1).more hm4
      refine call_ok Tryz.call134 (sketch_add w4 q b cap sl tot h4.sk p hp n) ?_
      rintro _ w5 ⟨rfl, s5, m5⟩
      have hk5 := hk4.next m5 hFo (fun x hx => by omega) (fun x hx => by have := hFl x hx; have := hm4.size; omega) (by omega)
      have hm6 := more_alloc w5 (.cells slotZ.cells.toArray 253)
      have hb6 := Blk.new w5 253 slotZ.cells.toArray
      simp -implicitDefEqProofs (maxSteps := 1000000) only [↓zvN, zvU, ↓zqD, ↓sk_nil, ↓sk_cons, ↓sk_guard, ↓sk_zero, ↓sk_one, ↓sk_two, ↓zvE, zvM, init, one, Value.cells, simprocAttr, tyF]
      refine ⟨hk5, ?_⟩
      simp -implicitDefEqProofs (maxSteps := 1000000) only [↓zvN, zvU, ↓zqD, ↓sk_nil, ↓sk_cons, ↓sk_guard, ↓sk_zero, ↓sk_one, ↓sk_two, ↓zvE, zvM, init, one, Value.cells, simprocAttr, tyF, zerSlot]
      obtain ⟨w6, hw6⟩ : ∃ w6, w5.alloc (.cells slotZ.cells.toArray 253) = w6 := ⟨_, rfl⟩
      rw [hw6] at hm6 hb6 ⊢
      clear hw6
      rw [List.toList_toArray] at hb6
      obtain ⟨r, hr⟩ : ∃ r, w5.heap.size = r := ⟨_, rfl⟩
      have hrz : ∀ k, k < (w1).heap.size → k < r := fun k hk => by have := hm4.size; have := m5.size; omega
      rw [hr] at hb6 ⊢
      have hk6 : KeepF 0 (fun k => k = wi ∨ k = z) w1 w6 := hk5.more hm6 (fun x hx => by have := hrz x (hFl x hx); omega) (by omega)
      refine ⟨hk6, ?_⟩
      have h5 : WinW w5 wi q b cap ns th num (addS cap sl p n) (addM tot (countM n)) := ⟨hk5.blk (.inl rfl) (h1).blk, s5, (h1).nsr, (h1).thr⟩
      have h6 := h5.more hm6
      have m06 : Mod (trio wi q b) w w6 := (((m03).trans (Mod.of_more hm4)).trans (m5.mono fun k _ hk => .inr hk)).trans (Mod.of_more hm6)
      have hin := slotA_in (tot := tot) (cap := cap) (h1).sk p n
      obtain ⟨hc0, hc1, hc2, hc3⟩ := (h6).sk.cb _ hin
      have hxl := (h6).sk.plen _ hin
      unfold heavyM
      obtain ⟨x, hx⟩ : ∃ x, slotA cap sl p n = x := ⟨_, rfl⟩
      rw [hx] at hc0 hc1 hc2 hc3 hxl ⊢
      refine st_all hb6 (by rw [List.size_toArray]; exact SlotM.len hxl) rfl (by rw [List.toList_toArray]; exact SlotM.one _) fun w7 i7 k7 => ?_
      try rw [s2_undef]
      rw [List.toList_toArray] at k7
      have hk7 := ((hk6).next (Mod.of_wr (S := fun k => k = r) i7 rfl) (fun x hx hh => by have := hrz x (hFl x hx); omega) (fun x hx => by omega) (fun x hx => by have := hFl x hx; have := (hk6).1.size; have := (hb6).lt; have := hrz x (hFl x hx); omega) (by omega))
      have h7 : WinW w7 wi q b cap ns th num (addS cap sl p n) (addM tot (countM n)) := (h6).mod (S := fun k => k = r) (Mod.of_wr i7 rfl) (fun e => by have := hrz wi (h1).blk.lt; omega) (fun e => by have := hrz q (h1).sk.blk.lt; omega) (fun e => by have := hrz b (h1).sk.blt; omega)
      have m07 : Mod (trio wi q b) w w7 := (m06).next (Mod.of_wr (S := fun k => k = r) i7 rfl) (fun k hk e => by have := (m03).size; have := hrz k (by omega); omega)
      have cr8 : w7.cell? ⟨r, 8, none⟩ = some (.int .i64 x.count) := by rw [k7.cell]; exact slot_cnt hxl
      have cr9 : w7.cell? ⟨r, 9, none⟩ = some (.int .i64 x.err) := by rw [k7.cell]; exact slot_err hxl
      have lr7 := k7.lt
      have lw7 := h7.blk.lt
      have ex : IntKind.i64.wrap (x.count - x.err) = x.count - x.err := w64 (by omega) (by omega)
      have ct7 := (c0 h7.blk).2.2.1
      simp -implicitDefEqProofs (maxSteps := 1000000) only [↓zvN, zvU, ↓zqD, ↓sk_nil, ↓sk_cons, ↓sk_guard, ↓sk_zero, ↓sk_one, ↓sk_two, ↓zvE, zvM, init, one, Value.cells, simprocAttr, tyF]
      refine ⟨hk7, ?_⟩
      try simp -implicitDefEqProofs (maxSteps := 1000000) only [↓zvN, zvU, ↓zvE, zvM, init, one, Value.cells, simprocAttr, tyF]
      refine draw_calm mixed (by kernel_rfl) ?_
      simp -implicitDefEqProofs (maxSteps := 1000000) only [↓zvN, zvU, ↓zqD, ↓zvE, zvM, init, one, Value.cells, simprocAttr, tyF, cr8, cr9, ct7, lr7, lw7, ex]
      intro w8 hm8
      try simp -implicitDefEqProofs (maxSteps := 1000000) only [↓zvN, zvU, ↓zvE, zvM, init, one, Value.cells, simprocAttr, tyF, p_nil]
      exact ⟨h7.more hm8, m07.trans (Mod.of_more hm8)⟩
theorem TurnsW.st {w : World} {a : TuA} {q : Int} {l : List TurnM} {line : List Nat} (h : TurnsW w a q l line) {c : Nat} {x : TurnM} (hx : l[c]? = some x) {x' : TurnM} (ha : x'.awake = x.awake) (hd : 0 ≤ x'.deficit ∧ x'.deficit ≤ 1073760000 ∧ (x'.fresh = true → x'.deficit ≤ 9216))
    {w' : World} (i : Wr a.tb w w') (k : Blk w' a.tb 272 ((l.set c x').flatMap TurnM.cells)) : TurnsW w' a q (l.set c x') line := by
  obtain ⟨n1, n2, n3⟩ := h.sep
  obtain ⟨rest, h1, h2⟩ := h.ln
  refine ⟨by rw [List.length_set]; exact i.blk h.blk n1, k, ⟨rest, by rw [List.length_set]; exact h1, i.blk h2 n3.symm⟩, h.nd, fun d => ?_, by rw [List.length_set]; exact h.ll, h.qb, fun u hu => ?_⟩
  · rw [h.mem d]
    by_cases e : c = d
    · subst e
      rw [List.getElem?_set_self (List.getElem?_eq_some_iff.1 hx).1]
      constructor
      · rintro ⟨y, hy, hya⟩
        rw [hx] at hy
        cases hy
        exact ⟨_, rfl, ha.trans hya⟩
      · rintro ⟨y, hy, hya⟩
        cases hy
        exact ⟨x, hx, ha.symm.trans hya⟩
    · rw [List.getElem?_set_ne e]
  · rcases List.mem_or_eq_of_mem_set hu with h2 | h2
    · exact h.db u h2
    · rw [h2]; exact hd
theorem blk_elem {M : Type} {E : M → List Value} {s b e i : Nat} {w : World} {ms : List M} {m : M} (hb : Blk w b e (ms.flatMap E)) (h : ∀ m ∈ ms, (E m).length = s) (hi : ms[i]? = some m) (K : Value → Prop) :
    ldRow s ⟨b, i * s, none⟩ w K = K (.agg (E m).toArray) := by
  have hlt : i < ms.length := (List.getElem?_eq_some_iff.1 hi).1
  rw [hb.row_eq (i * s) s (row_fits ms h hlt), row_cut ms h i m hi]
theorem blk_elemC {M : Type} {E : M → List Value} {s b e i j : Nat} {w : World} {ms : List M} {m : M} (hb : Blk w b e (ms.flatMap E)) (h : ∀ m ∈ ms, (E m).length = s) (hi : ms[i]? = some m) (hj : j < s) :
    w.cell? ⟨b, i * s + j, none⟩ = (E m)[j]? := by
  rw [hb.cell, row_cell ms h i m j hi hj]
instance : DecidableEq PrefM := fun a b => decidable_of_iff (a.v6 = b.v6 ∧ a.addr = b.addr) ⟨fun h => by cases a; cases b; simp_all, fun h => by subst h; exact ⟨rfl, rfl⟩⟩
def hashM (p : PrefM) (n : Nat) : Nat := (sipM (noBytes 16) (pkey p)).toNat % n
def scanM (ls : List PlaceM) (p : PrefM) (fr : Nat) : Nat → Nat → Int → Int × Int
  | 0, _, s => (-1, s)
  | f + 1, k, s => match ls[(fr + k) % ls.length]? with
    | none => (-1, s)
    | some x => if x.state = 1 ∧ x.p = p then ((((fr + k) % ls.length : Nat) : Int), s) else
      let s' := if x.state ≠ 1 ∧ s < 0 then (((fr + k) % ls.length : Nat) : Int) else s
      if x.state = 0 then (-1, s') else scanM ls p fr f (k + 1) s'
def findM (ls : List PlaceM) (p : PrefM) : Int × Int := scanM ls p (hashM p ls.length) ls.length 0 (-1)
structure PlOk (s : Nat) (x : PlaceM) : Prop where
  len : x.cells.length = s
  pre : x.p.addr.length = 7
  one : ∀ u ∈ x.v, u.oneCell' = true
theorem PlOk.ones {s : Nat} {x : PlaceM} (h : PlOk s x) : ∀ u ∈ x.cells, u.oneCell' = true := by
  intro u hu
  simp only [PlaceM.cells, List.mem_cons, List.mem_append] at hu
  rcases hu with rfl | hu | hu
  · rfl
  · exact PrefM.one _ u hu
  · exact h.one u hu
abbrev TabOk (s : Nat) (ls : List PlaceM) : Prop := ∀ x ∈ ls, PlOk s x
theorem TabOk.lens {s : Nat} {ls : List PlaceM} (h : TabOk s ls) : ∀ x ∈ ls, x.cells.length = s := fun x hx => (h x hx).len
structure TabW (w : World) (T E s b t : Nat) (ls : List PlaceM) (room n : Nat) : Prop where
  row : Blk w b E (ls.flatMap PlaceM.cells)
  tab : Blk w t T [.slice (some ⟨b, 0, none⟩) ls.length ls.length, .int .i64 room, .int .i64 n]
  ne : b ≠ t
  ok : TabOk s ls
  pos : 0 < ls.length
  le : ls.length ≤ 128
theorem TabW.more {w w' : World} {T E s b t : Nat} {ls : List PlaceM} {room n : Nat} (h : TabW w T E s b t ls room n) (hm : More w w') : TabW w' T E s b t ls room n :=
  ⟨h.row.more hm, h.tab.more hm, h.ne, h.ok, h.pos, h.le⟩
theorem zerKey : zer Tryz.prog 24 = some (.agg ((noBytes 16).map byteV).toArray) := by rw [zer24]; rfl
theorem key0 (w0 : World) (K : Value → Prop) : pureP Tryz.prog (Instr.build 24 #[]) K = K (.agg ((noBytes 16).map byteV).toArray) := build_arrE (out := (noBytes 16).map byteV) Tryz.underlying24 cells5 (by decide) zerKey rfl w0 K
theorem bytesET : ElemT Tryz.prog 348 (.slice none 0 0) 1 24 := by unfold ElemT; kernel_rfl
def FindJ (ls : List PlaceM) (p : PrefM) (w : World) (v6 v30 : Value) (w' : World) : Prop :=
  ∃ (k : Nat) (s : Int), v30 = .int .i64 k ∧ k ≤ ls.length ∧ v6 = .int .i64 s ∧ scanM ls p (hashM p ls.length) (ls.length - k) k s = findM ls p ∧ More w w'
theorem zerPlace_box : zer Tryz.prog 344 = some (.agg (PlaceM.mk 0 prefZ [.int .i64 0, .pointer none]).cells.toArray) := by rw [zer344]; rfl
theorem table_find_box (w : World) (b t : Nat) (ls : List PlaceM) (room n : Nat) (p : PrefM) (hp : p.addr.length = 7) (hT : TabW w 338 344 11 b t ls room n) :
    Ret Tryz.prog 201 #[.pointer (some ⟨t, 0, none⟩), .agg p.cells.toArray] w fun v w' => v = .tuple #[.int .i64 (findM ls p).1, .int .i64 (findM ls p).2] ∧ More w w' := by
  refine ret_of Tryz.func201 rfl (by kernel_rfl) (Nat.le_of_ble_eq_true (by kernel_rfl)) ?_
  have hm1 := more_alloc w (.cells p.cells.toArray 37)
  have hb1 := Blk.new w 37 p.cells.toArray
  have s1 := size_alloc w (.cells p.cells.toArray 37)
  simp -implicitDefEqProofs (maxSteps := 1000000) only [↓zvN, zvU, ↓zvE, zvM, init, one, Value.cells, simprocAttr, tyF]
  generalize w.alloc (.cells p.cells.toArray 37) = w1 at hm1 hb1 s1 ⊢
  rw [List.toList_toArray] at hb1
  obtain ⟨pb, hpb⟩ : ∃ q, w.heap.size = q := ⟨_, rfl⟩
  rw [hpb] at hb1 s1 ⊢
  have hT1 := hT.more hm1
  have hpl : p.cells.length = 8 := by simp [PrefM.cells, hp]
  have v1 := hb1.all_eq 8 hpl
  have c0 := hT1.tab.cell 0
  simp only [List.getElem?_cons_zero] at c0
  have htl := hT1.tab.lt
  refine draw_line w1.heap.size More [0, 0, 1, 1, 1, 0, 0, 0, 0, 0, 0, 0, 0] [[], [], [1], [1, 2], [0, 1, 2, 3], [], [5], [5, 6], [5, 6, 7], [5, 6, 7, 8], [5, 6, 7, 8, 9], [0, 1, 2, 3, 4, 5, 6, 7, 8, 9, 10], [0, 1, 2, 3, 4, 5, 6, 7, 8, 9, 10, 11]] mixed (by kernel_rfl) (by kernel_rfl) (More.refl _) (fun w' h => h) (fun w' h => h) ?_
  intro w2 hm2
  simp -implicitDefEqProofs (maxSteps := 1000000) only [↓zvN, zvU, ↓zqD, ↓sk_nil, ↓sk_cons, ↓sk_guard, ↓sk_zero, ↓sk_one, ↓sk_two, ↓zvE, zvM, init, one, Value.cells, simprocAttr, tyF, v1, s1, c0, htl, key0 w1]
  refine call_ok Tryz.call210 (table_bytesOf w2 p hp) ?_
  rintro _ w3 ⟨g, c, rfl, hg, hB3, hc3, hm3⟩
  have hm13 := hm2.trans hm3.1
  simp -implicitDefEqProofs (maxSteps := 1000000) only [↓zvN, zvU, ↓zqD, ↓sk_nil, ↓sk_cons, ↓sk_guard, ↓sk_zero, ↓sk_one, ↓sk_two, ↓zvE, zvM, init, one, Value.cells, simprocAttr, tyF]
  refine ⟨hm13, ?_⟩
  refine bslice (z := .slice none 0 0) (cells := #[.slice (some ⟨g, 0, none⟩) 8 c]) Tryz.underlying366 bytesET (by omega) (by have := bcells_list (z := .slice none 0 0) [.slice (some ⟨g, 0, none⟩) 8 c] (by intro v hv; simp at hv; subst hv; rfl); exact this) ?_
  have hm4 := more_alloc w3 (.cells #[.slice (some ⟨g, 0, none⟩) 8 c] 348)
  have hb4 := Blk.new w3 348 #[.slice (some ⟨g, 0, none⟩) 8 c]
  generalize w3.alloc (.cells #[.slice (some ⟨g, 0, none⟩) 8 c] 348) = w4 at hm4 hb4 ⊢
  have hm14 := hm13.trans hm4
  simp -implicitDefEqProofs (maxSteps := 1000000) only [↓zvN, zvU, ↓zqD, ↓sk_nil, ↓sk_cons, ↓sk_guard, ↓sk_zero, ↓sk_one, ↓sk_two, ↓zvE, zvM, init, one, Value.cells, simprocAttr, tyF]
  refine ⟨hm14, ?_⟩
  have hsum := sip_sum w4 (noBytes 16) (some ⟨w3.heap.size, 0, none⟩) [⟨some ⟨g, 0, none⟩, pkey p, c⟩] 1 rfl (by have := hb4.cs; simpa [PartM.cell, pkey_len hp] using this) (by intro x hx; simp at hx; subst hx; exact hB3.more hm4) (by simp [joinP, pkey_len hp]) (by simp)
  rw [show joinP [⟨some ⟨g, 0, none⟩, pkey p, c⟩] = pkey p by simp [joinP]] at hsum
  have hrg := sipM_range (noBytes 16) (pkey p)
  have hhash : hashM p ls.length = (sipM (noBytes 16) (pkey p)).toNat % ls.length := rfl
  obtain ⟨x, hx⟩ : ∃ x, x = sipM (noBytes 16) (pkey p) := ⟨_, rfl⟩
  rw [← hx] at hsum hrg hhash
  clear hx
  refine call_ok Tryz.call227 hsum ?_
  rintro _ w5 ⟨rfl, hm5⟩
  have hm15 := hm14.trans hm5
  have hpos := hT.pos
  have hle := hT.le
  have eu : IntKind.u64.wrap (ls.length : Int) = ls.length := wu64 (by omega) (by omega)
  have ne0 : ¬ ((ls.length : Int) = 0) := by omega
  have ne1 : ¬ (ls.length = 0) := by omega
  simp -implicitDefEqProofs (maxSteps := 1000000) only [↓zvN, zvU, ↓zqD, ↓sk_nil, ↓sk_cons, ↓sk_guard, ↓sk_zero, ↓sk_one, ↓sk_two, ↓zvE, zvM, init, one, Value.cells, simprocAttr, tyF, c0, eu, ne0, ne1]
  refine ⟨hm15, ?_⟩
  have hT5 := hT1.more hm15
  have c5 := hT5.tab.cell 0
  simp only [List.getElem?_cons_zero] at c5
  obtain ⟨fr, hfr⟩ : ∃ f, f = hashM p ls.length := ⟨_, rfl⟩
  have hfl : fr < ls.length := by rw [hfr, hhash]; exact Nat.mod_lt _ hpos
  have erem : Int.tmod x (ls.length : Int) = (fr : Int) := by
    rw [hfr, hhash, Int.tmod_eq_emod_of_nonneg hrg.1]
    obtain ⟨xn, rfl⟩ := Int.eq_ofNat_of_zero_le hrg.1
    simp
  have ewr : IntKind.u64.wrap (fr : Int) = fr := wu64 (by omega) (by omega)
  have ewi : IntKind.i64.wrap (fr : Int) = fr := w64 (by omega) (by omega)
  try simp -implicitDefEqProofs (maxSteps := 1000000) only [↓zvN, zvU, ↓zvE, zvM, init, one, Value.cells, simprocAttr, tyF, c5, erem, ewr]
  refine loop_p (6 :: 8 :: 9 :: 10 :: List.range' 30 51) (fun e w' => FindJ ls p w5 (e 6) (e 30) w') (fun e _ => ls.length - (numOf (e 30)).toNat) ?_ ?_
  · exact ⟨0, -1, by simp only [hv_apply, up_apply, upO_some, upO_none, init, List.mem_cons, List.mem_range'_1, true_and, and_true, and_false, false_and, Nat.reduceLT, Nat.reduceLeDiff, Nat.reduceAdd, true_or, or_true, if_true, if_false, ↓reduceIte, Nat.reduceEqDiff, false_or, or_false, List.not_mem_nil, List.getElem?_cons_zero, List.getElem?_cons_succ, Option.getD_some] <;> rfl, by omega, by simp only [hv_apply, up_apply, upO_some, upO_none, init, List.mem_cons, List.mem_range'_1, true_and, and_true, and_false, false_and, Nat.reduceLT, Nat.reduceLeDiff, Nat.reduceAdd, true_or, or_true, if_true, if_false, ↓reduceIte, Nat.reduceEqDiff, false_or, or_false, List.not_mem_nil, List.getElem?_cons_zero, List.getElem?_cons_succ, Option.getD_some] <;> rfl, rfl, More.refl _⟩
  rintro v w6 ⟨k, s, h30, hk, h6, hsc, hm6⟩
  simp only [hv_apply, up_apply, upO_some, upO_none, init, List.mem_cons, List.mem_range'_1, true_and, and_true, and_false, false_and, Nat.reduceLT, Nat.reduceLeDiff, Nat.reduceAdd, true_or, or_true, if_true, if_false, ↓reduceIte, Nat.reduceEqDiff, false_or, or_false, List.not_mem_nil, List.getElem?_cons_zero, List.getElem?_cons_succ, Option.getD_some] at h30 h6
  have ek : IntKind.i64.wrap ((k : Int) + 1) = ((k + 1 : Nat) : Int) := w64 (by omega) (by omega)
  simp -implicitDefEqProofs (maxSteps := 1000000) only [↓zvN, zvU, ↓zvE, zvM, init, one, Value.cells, simprocAttr, tyF, h30, h6]
  refine ⟨fun h9 => ?_, fun h9 => ?_⟩
  rotate_left
  · obtain rfl : k = ls.length := by omega
    rw [Nat.sub_self] at hsc
    unfold scanM at hsc
    try simp -implicitDefEqProofs (maxSteps := 1000000) only [↓zvN, zvU, ↓zvE, zvM, init, one, Value.cells, simprocAttr, tyF, h30, h6]
    rw [← hsc]
    exact ⟨rfl, (hm1.trans hm15).trans hm6⟩
  have hT6 := hT5.more hm6
  have c6 := hT6.tab.cell 0
  simp only [List.getElem?_cons_zero] at c6
  obtain ⟨i, hi⟩ : ∃ i, i = (fr + k) % ls.length := ⟨_, rfl⟩
  have hil : i < ls.length := by rw [hi]; exact Nat.mod_lt _ hpos
  have eadd : IntKind.i64.wrap ((fr : Int) + (k : Int)) = ((fr + k : Nat) : Int) := w64 (by omega) (by omega)
  have emod : Int.tmod ((fr + k : Nat) : Int) (ls.length : Int) = (i : Int) := by
    rw [hi, Int.tmod_eq_emod_of_nonneg (by omega)]
    simp
  have ewi2 : IntKind.i64.wrap (i : Int) = i := w64 (by omega) (by omega)
  obtain ⟨y, hy⟩ := row_nat ls i hil
  have hsc' : scanM ls p fr (ls.length - (k + 1) + 1) k s = findM ls p := by rw [show ls.length - (k + 1) + 1 = ls.length - k by omega, hfr]; exact hsc
  unfold scanM at hsc'
  rw [← hi] at hsc'
  simp only [hy] at hsc'
  have vrow := blk_elem hT6.row hT.ok.lens hy
  have g0 : (0 : Int) ≤ (i : Int) := by omega
  have hilI : (i : Int) < (ls.length : Int) := by omega
  simp -implicitDefEqProofs (maxSteps := 1000000) only [↓zvN, zvU, ↓zvE, zvM, init, one, Value.cells, simprocAttr, tyF, h30, h6, c6, eadd, emod, ewi, ewi2, ne0, ne1, hil, vrow, g0, Int.toNat_natCast, hilI, zerPlace_box]
  have hyo := hT.ok y (List.mem_of_getElem? hy)
  have hm7 := more_alloc w6 (.cells (PlaceM.mk 0 prefZ [.int .i64 0, .pointer none]).cells.toArray 344)
  have hb7 := Blk.new w6 344 (PlaceM.mk 0 prefZ [.int .i64 0, .pointer none]).cells.toArray
  obtain ⟨w7, hw7⟩ : ∃ w7, w6.alloc (.cells (PlaceM.mk 0 prefZ [.int .i64 0, .pointer none]).cells.toArray 344) = w7 := ⟨_, rfl⟩
  rw [hw7] at hm7 hb7 ⊢
  clear hw7
  refine st_all hb7 (by simpa using hyo.len) (by rfl) (by simpa using hyo.ones) fun w8 j1 j2 => ?_
  rw [List.toList_toArray] at j2
  have hm8 : More w6 w8 := more_but hm7 (But.of_wr j1) (Nat.le_refl _)
  have hm18 := hm15.trans (hm6.trans hm8)
  have hT8 := hT6.more hm8
  have c8 := hT8.tab.cell 0
  simp only [List.getElem?_cons_zero] at c8
  obtain ⟨qb, hqb⟩ : ∃ q, w6.heap.size = q := ⟨_, rfl⟩
  rw [hqb] at j2 ⊢
  have d0 : w8.cell? ⟨qb, 0, none⟩ = some (.int .i64 y.state) := by rw [j2.cell]; rfl
  have d1 : ∀ K : Value → Prop, ldRow 8 ⟨qb, 1, none⟩ w8 K = K (.agg y.p.cells.toArray) := fun K => by
    have hl := hyo.len
    have h8 : y.p.cells.length = 8 := by simp [PrefM.cells, hyo.pre]
    simp only [PlaceM.cells, List.length_cons, List.length_append, h8] at hl
    rw [j2.row_eq 1 8 (by simp only [PlaceM.cells, List.length_cons, List.length_append, h8]; omega)]
    congr 2
    simp only [PlaceM.cells, List.drop_succ_cons, List.drop_zero]
    rw [List.take_append_of_le_length (by omega), List.take_of_length_le (by omega)]
  have d2 := (hb1.more hm18).all_eq 8 hpl
  have d3 : w8.cell? ⟨b, i * 11, none⟩ = some (.int .i64 y.state) := by
    have := blk_elemC (j := 0) hT8.row hT.ok.lens hy (by omega)
    rw [Nat.add_zero] at this
    rw [this]; rfl
  rw [s2_undef]
  have peq := pref_eq hyo.pre hp w8
  by_cases h1 : y.state = 1
  · rw [h1] at d0 d3
    by_cases h2 : y.p = p
    · rw [if_pos ⟨h1, h2⟩] at hsc'
      have peq2 : ∀ ox oy K, _ := fun ox oy K => (peq ox oy K).trans (show _ = K (.bool true) by simp only [h2, decide_true])
      simp -implicitDefEqProofs (maxSteps := 1000000) only [↓zvN, zvU, ↓zvE, zvM, init, one, Value.cells, simprocAttr, tyF, h30, h6, d0, d1, d2, peq2]
      rw [← hsc']
      exact ⟨rfl, hm1.trans hm18⟩
    · rw [if_neg (fun h => h2 h.2)] at hsc'
      simp only [h1, if_neg (show ¬ ((1 : Int) = 0) by omega), ne_eq, not_true_eq_false, false_and, if_false] at hsc'
      simp -implicitDefEqProofs (maxSteps := 1000000) only [↓zvN, zvU, ↓zvE, zvM, init, one, Value.cells, simprocAttr, tyF, h30, h6, d0, d1, d2, d3, c8, peq, h2, hilI, g0, hil, Int.toNat_natCast]
      rw [ek]
      refine ⟨⟨?_, k + 1, _, rfl, by omega, rfl, by rw [← hfr]; exact hsc', hm6.trans hm8⟩, by simp only [numOf]; omega⟩
      repeat (first | exact Same.hv _ _ _ | refine Same.up (by simp) ?_)
  · rw [if_neg (fun h => h1 h.1)] at hsc'
    by_cases h3 : s < 0
    · simp only [h1, h3, ne_eq, not_false_eq_true, and_self, if_true] at hsc'
      by_cases h4 : y.state = 0
      · simp only [h4, if_true] at hsc'
        simp -implicitDefEqProofs (maxSteps := 1000000) only [↓zvN, zvU, ↓zvE, zvM, init, one, Value.cells, simprocAttr, tyF, h30, h6, d0, d1, d2, d3, c8, h1, h3, h4, hilI, g0, hil, Int.toNat_natCast]
        rw [← hsc']
        exact ⟨rfl, hm1.trans hm18⟩
      · simp only [h4, if_false] at hsc'
        simp -implicitDefEqProofs (maxSteps := 1000000) only [↓zvN, zvU, ↓zvE, zvM, init, one, Value.cells, simprocAttr, tyF, h30, h6, d0, d1, d2, d3, c8, h1, h3, h4, hilI, g0, hil, Int.toNat_natCast]
        rw [ek]
        refine ⟨⟨?_, k + 1, _, rfl, by omega, rfl, by rw [← hfr]; exact hsc', hm6.trans hm8⟩, by simp only [numOf]; omega⟩
        repeat (first | exact Same.hv _ _ _ | refine Same.up (by simp) ?_)
    · simp only [h3, and_false, if_false] at hsc'
      by_cases h4 : y.state = 0
      · simp only [h4, if_true] at hsc'
        simp -implicitDefEqProofs (maxSteps := 1000000) only [↓zvN, zvU, ↓zvE, zvM, init, one, Value.cells, simprocAttr, tyF, h30, h6, d0, d1, d2, d3, c8, h1, h3, h4, hilI, g0, hil, Int.toNat_natCast]
        rw [← hsc']
        exact ⟨rfl, hm1.trans hm18⟩
      · simp only [h4, if_false] at hsc'
        simp -implicitDefEqProofs (maxSteps := 1000000) only [↓zvN, zvU, ↓zvE, zvM, init, one, Value.cells, simprocAttr, tyF, h30, h6, d0, d1, d2, d3, c8, h1, h3, h4, hilI, g0, hil, Int.toNat_natCast]
        rw [ek]
        refine ⟨⟨?_, k + 1, _, rfl, by omega, rfl, by rw [← hfr]; exact hsc', hm6.trans hm8⟩, by simp only [numOf]; omega⟩
        repeat (first | exact Same.hv _ _ _ | refine Same.up (by simp) ?_)
set_option maxHeartbeats 1000000
def wayM (ls : List PlaceM) (p : PrefM) (j : Nat) : Nat := (hashM p ls.length + j) % ls.length
def TakenAt (ls : List PlaceM) (p : PrefM) (i : Nat) : Prop := ∃ y, ls[i]? = some y ∧ y.state = 1 ∧ y.p = p
def Passed (ls : List PlaceM) (p : PrefM) (j : Nat) : Prop := ∃ y, ls[wayM ls p j]? = some y ∧ y.state ≠ 0 ∧ ¬ (y.state = 1 ∧ y.p = p)
def FreeAt (ls : List PlaceM) (i : Nat) : Prop := ∃ y, ls[i]? = some y ∧ y.state = 0
def SpotOk (ls : List PlaceM) (p : PrefM) (m : Nat) (s : Int) : Prop :=
  (s = -1 ∧ ∀ j, j < m → ∃ y, ls[wayM ls p j]? = some y ∧ y.state = 1) ∨
  (∃ j, j < m ∧ s = (wayM ls p j : Nat) ∧ (∃ y, ls[wayM ls p j]? = some y ∧ y.state ≠ 1) ∧ ∀ i, i < j → Passed ls p i)
theorem SpotOk.step {ls : List PlaceM} {p : PrefM} {m : Nat} {s : Int} {y : PlaceM} (h : SpotOk ls p m s) (hp : ∀ j, j < m → Passed ls p j) (hy : ls[wayM ls p m]? = some y) :
    SpotOk ls p (m + 1) (if y.state ≠ 1 ∧ s < 0 then ((wayM ls p m : Nat) : Int) else s) := by
  rcases h with ⟨rfl, h⟩ | ⟨j, h1, rfl, h2, h3⟩
  · by_cases h1 : y.state = 1
    · rw [if_neg (fun h => h.1 h1)]
      left
      refine ⟨rfl, fun j hj => ?_⟩
      rcases Nat.lt_or_ge j m with h2 | h2
      · exact h j h2
      · obtain rfl : j = m := by omega
        exact ⟨y, hy, h1⟩
    · rw [if_pos ⟨h1, by omega⟩]
      right
      exact ⟨m, by omega, rfl, ⟨y, hy, h1⟩, hp⟩
  · rw [if_neg (by omega)]
    right
    exact ⟨j, by omega, rfl, h2, h3⟩
def Found (ls : List PlaceM) (p : PrefM) (r : Int × Int) : Prop :=
  (∃ i : Nat, r.1 = i ∧ i < ls.length ∧ TakenAt ls p i) ∨
  (r.1 = -1 ∧ ∃ m, m ≤ ls.length ∧ SpotOk ls p m r.2 ∧ ((m = ls.length ∧ ∀ j, j < m → Passed ls p j) ∨ ∃ k, m = k + 1 ∧ (∀ j, j < k → Passed ls p j) ∧ FreeAt ls (wayM ls p k)))
theorem scan_found {ls : List PlaceM} {p : PrefM} (hpos : 0 < ls.length) : ∀ (f k : Nat) (s : Int), f + k = ls.length → (∀ j, j < k → Passed ls p j) → SpotOk ls p k s → Found ls p (scanM ls p (hashM p ls.length) f k s)
  | 0, k, s, hf, hp, hs => by
    unfold scanM
    exact .inr ⟨rfl, k, by omega, hs, .inl ⟨by omega, hp⟩⟩
  | f + 1, k, s, hf, hp, hs => by
    have hil : wayM ls p k < ls.length := Nat.mod_lt _ hpos
    obtain ⟨y, hy⟩ := row_nat ls _ hil
    have hy' : ls[(hashM p ls.length + k) % ls.length]? = some y := hy
    unfold scanM
    rw [hy']
    simp only
    by_cases h1 : y.state = 1 ∧ y.p = p
    · rw [if_pos h1]
      exact .inl ⟨_, rfl, hil, y, hy, h1.1, h1.2⟩
    · rw [if_neg h1]
      have hst := hs.step hp hy
      by_cases h2 : y.state = 0
      · rw [if_pos h2]
        exact .inr ⟨rfl, k + 1, by omega, hst, .inr ⟨k, rfl, hp, y, hy, h2⟩⟩
      · rw [if_neg h2]
        refine scan_found hpos f (k + 1) _ (by omega) (fun j hj => ?_) hst
        rcases Nat.lt_or_ge j k with h3 | h3
        · exact hp j h3
        · obtain rfl : j = k := by omega
          exact ⟨y, hy, h2, h1⟩
theorem find_found {ls : List PlaceM} (p : PrefM) (hpos : 0 < ls.length) : Found ls p (findM ls p) :=
  scan_found hpos ls.length 0 (-1) rfl (fun j hj => by omega) (.inl ⟨rfl, fun j hj => by omega⟩)
structure TInv (ls : List PlaceM) : Prop where
  way : ∀ (i : Nat) (y : PlaceM), ls[i]? = some y → y.state = 1 → ∃ k, k < ls.length ∧ i = wayM ls y.p k ∧ ∀ j, j < k → ¬ FreeAt ls (wayM ls y.p j)
  one : ∀ (i i' : Nat) (y y' : PlaceM), ls[i]? = some y → ls[i']? = some y' → y.state = 1 → y'.state = 1 → y.p = y'.p → i = i'
theorem find_hit {ls : List PlaceM} {p : PrefM} (hpos : 0 < ls.length) (h : 0 ≤ (findM ls p).1) : ∃ i : Nat, (findM ls p).1 = i ∧ i < ls.length ∧ TakenAt ls p i := by
  rcases find_found p hpos with h1 | ⟨h1, _⟩
  · exact h1
  · omega
theorem find_miss {ls : List PlaceM} {p : PrefM} (hI : TInv ls) (hpos : 0 < ls.length) (h : (findM ls p).1 < 0) : ∀ i, ¬ TakenAt ls p i := by
  rintro i ⟨y, hy, h1, rfl⟩
  obtain ⟨k, hk, rfl, hfree⟩ := hI.way i y hy h1
  rcases find_found y.p hpos with ⟨j, h2, _⟩ | ⟨_, m, hm, _, h3⟩
  · omega
  · rcases h3 with ⟨rfl, h3⟩ | ⟨q, rfl, h3, h4⟩
    · obtain ⟨z, hz, _, h5⟩ := h3 k hk
      rw [hy] at hz
      cases hz
      exact h5 ⟨h1, rfl⟩
    · rcases Nat.lt_trichotomy k q with h6 | h6 | h6
      · obtain ⟨z, hz, _, h5⟩ := h3 k h6
        rw [hy] at hz
        cases hz
        exact h5 ⟨h1, rfl⟩
      · subst h6
        obtain ⟨z, hz, h5⟩ := h4
        rw [hy] at hz
        cases hz
        omega
      · exact hfree q h6 h4
theorem find_spot {ls : List PlaceM} {p : PrefM} (hpos : 0 < ls.length) (h : (findM ls p).1 < 0) (hx : ∃ (i : Nat) (y : PlaceM), ls[i]? = some y ∧ y.state ≠ 1) :
    ∃ k, k < ls.length ∧ (findM ls p).2 = (wayM ls p k : Nat) ∧ (∃ y, ls[wayM ls p k]? = some y ∧ y.state ≠ 1) ∧ ∀ j, j < k → ¬ FreeAt ls (wayM ls p j) := by
  rcases find_found p hpos with ⟨j, h2, _⟩ | ⟨_, m, hm, hs, h3⟩
  · omega
  · have fin : ∀ k, k < m → (findM ls p).2 = (wayM ls p k : Nat) → (∃ y, ls[wayM ls p k]? = some y ∧ y.state ≠ 1) → (∀ i, i < k → Passed ls p i) → ∃ k, k < ls.length ∧ (findM ls p).2 = (wayM ls p k : Nat) ∧ (∃ y, ls[wayM ls p k]? = some y ∧ y.state ≠ 1) ∧ ∀ j, j < k → ¬ FreeAt ls (wayM ls p j) := by
      intro k hk h4 h5 h6
      refine ⟨k, by omega, h4, h5, fun j hj ⟨y, hy, h7⟩ => ?_⟩
      obtain ⟨z, hz, h8, _⟩ := h6 j hj
      rw [hy] at hz
      cases hz
      exact h8 h7
    rcases hs with ⟨h4, h5⟩ | ⟨k, hk, h4, h5, h6⟩
    · exfalso
      rcases h3 with ⟨rfl, h3⟩ | ⟨q, rfl, h3, h7⟩
      · obtain ⟨i, y, hy, h8⟩ := hx
        have hi : i < ls.length := (List.getElem?_eq_some_iff.1 hy).1
        obtain ⟨j, hj, e⟩ : ∃ j, j < ls.length ∧ wayM ls p j = i := by
          have hh : hashM p ls.length < ls.length := Nat.mod_lt _ hpos
          rcases Nat.lt_or_ge i (hashM p ls.length) with h9 | h9
          · refine ⟨i + ls.length - hashM p ls.length, by omega, ?_⟩
            unfold wayM
            rw [show hashM p ls.length + (i + ls.length - hashM p ls.length) = i + ls.length by omega, Nat.add_mod_right, Nat.mod_eq_of_lt hi]
          · refine ⟨i - hashM p ls.length, by omega, ?_⟩
            unfold wayM
            rw [show hashM p ls.length + (i - hashM p ls.length) = i by omega, Nat.mod_eq_of_lt hi]
        obtain ⟨z, hz, h9⟩ := h5 j hj
        rw [e, hy] at hz
        cases hz
        exact h8 h9
      · obtain ⟨z, hz, h9⟩ := h5 q (by omega)
        obtain ⟨y, hy, h10⟩ := h7
        rw [hz] at hy
        cases hy
        omega
    · exact fin k hk h4 h5 h6
end Go.Proofs.YtofhbonnojooeaaGreat

