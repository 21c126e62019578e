/-
  Texts that the law stands on, part 22.
-/
import Derived.Test.YtofhbonnojooeaaGreatKPoliceBoxed21
namespace Go.Proofs.YtofhbonnojooeaaGreat
open Go Go.RowKit Go.Proofs.RV
set_option linter.unusedSimpArgs false
set_option linter.unusedVariables false
set_option maxRecDepth 10000
set_option maxHeartbeats 4000000
theorem zerVd : zer Tryz.prog 46 = some (.agg (verC 0 0 0 0 false false).toArray) := by rw [zer46]; rfl
theorem ver_build (n : Int) (w0 : World) (K : Value → Prop) : pureP Tryz.prog (Instr.build 46 #[(0, .int .i64 n), (2, .int .i64 (-1)), (3, .int .i64 (-1))]) K = K (.agg (verC n 0 (-1) (-1) false false).toArray) :=
  build_of (verC n 0 (-1) (-1) false false) (by kernel_rfl) zerVd (by kernel_rfl) w0 K
theorem ver_one (seq no cl vic : Int) (b1 b2 : Bool) : ∀ u ∈ verC seq no cl vic b1 b2, u.oneCell' = true := by
  intro u hu
  simp only [verC, List.mem_cons, List.not_mem_nil, or_false] at hu
  rcases hu with rfl | rfl | rfl | rfl | rfl | rfl <;> rfl
theorem police_arrive (w : World) (a : PolA) (f : Nat → Nat) (r : PolR) (h : PolMem w a f r) (hi : PolI r) (x : PackM) (hx : x.Ok) (now d0 d1 : Int) (hnow : now ≤ 9223372036854775807) (hd0 : 0 ≤ d0 ∧ d0 < 18446744073709551616) (hd1 : 0 ≤ d1 ∧ d1 < 18446744073709551616) (hn : 0 ≤ r.n ∧ r.n ≤ 4611686018427387904) :
    Ret Tryz.prog 15 #[.pointer (some ⟨a.p, 0, none⟩), .agg x.cells.toArray, .int .i64 now, .agg #[.int .u64 d0, .int .u64 d1]] w fun v w' => ∃ q f',
      v = .agg (verC r.n (r.arrive x now d0 d1 q).no (r.arrive x now d0 d1 q).cl (r.arrive x now d0 d1 q).vic (r.arrive x now d0 d1 q).boxed (r.arrive x now d0 d1 q).full).toArray ∧ PolMem w' a f' (r.arrive x now d0 d1 q).r ∧ Frm w f w' f' := by
  refine ret_of Tryz.func15 rfl (by kernel_rfl) (Nat.le_of_ble_eq_true (by kernel_rfl)) ?_
  have ho := hi.ok
  have hm1 := more_alloc w (.cells x.cells.toArray 39)
  have hb1 := Blk.new w 39 x.cells.toArray
  simp -implicitDefEqProofs (maxSteps := 1000000) only [↓zvN, zvU, ↓zvE, zvM, init, one, Value.cells, simprocAttr, tyF, zerVd]
  obtain ⟨w1, hw1⟩ : ∃ w1, w.alloc (.cells x.cells.toArray 39) = w1 := ⟨_, rfl⟩
  rw [hw1] at hm1 hb1 ⊢
  clear hw1
  rw [List.toList_toArray] at hb1
  obtain ⟨z, hz⟩ : ∃ z, w.heap.size = z := ⟨_, rfl⟩
  have hfz : ¬ own f z := h.new_free (by omega)
  rw [hz] at hb1 ⊢
  have hm2 := more_alloc w1 (.cells #[.int .u64 d0, .int .u64 d1] 41)
  have hb2 := Blk.new w1 41 #[.int .u64 d0, .int .u64 d1]
  obtain ⟨w2, hw2⟩ : ∃ w2, w1.alloc (.cells #[.int .u64 d0, .int .u64 d1] 41) = w2 := ⟨_, rfl⟩
  rw [hw2] at hm2 hb2 ⊢
  clear hw2
  obtain ⟨y, hy⟩ : ∃ y, w1.heap.size = y := ⟨_, rfl⟩
  have hzy : z < y := by rw [← hy]; exact hb1.lt
  have hfy : ¬ own f y := (h.more hm1).new_free (by omega)
  rw [hy] at hb2 ⊢
  have hm3 := more_alloc w2 (.cells (verC 0 0 0 0 false false).toArray 46)
  have hb3 := Blk.new w2 46 (verC 0 0 0 0 false false).toArray
  obtain ⟨w3, hw3⟩ : ∃ w3, w2.alloc (.cells (verC 0 0 0 0 false false).toArray 46) = w3 := ⟨_, rfl⟩
  rw [hw3] at hm3 hb3 ⊢
  clear hw3
  rw [List.toList_toArray] at hb3
  obtain ⟨u, hu⟩ : ∃ u, w2.heap.size = u := ⟨_, rfl⟩
  have hyu : y < u := by rw [← hu]; exact hb2.lt
  have hfu : ¬ own f u := ((h.more hm1).more hm2).new_free (by omega)
  rw [hu] at hb3 ⊢
  have hm03 := (hm1.trans hm2).trans hm3
  have h3 := h.more hm03
  have p3 := (hb1.more hm2).more hm3
  have y3 := hb2.more hm3
  have c45 : w3.cell? ⟨z, 45, none⟩ = some (.int .i64 x.len) := by rw [p3.cell]; exact pack_lenAt hx.1 hx.2.1
  have l1 : ¬ x.len < 1 := by have := hx.2.2.1; omega
  have l2 : ¬ (9216 : Int) < x.len := by have := hx.2.2.2; omega
  try simp -implicitDefEqProofs (maxSteps := 1000000) only [↓zvN, zvU, ↓zvE, zvM, init, one, Value.cells, simprocAttr, tyF, c45, l1, l2, h3.cn ho.cl]
  obtain ⟨X, hX⟩ : ∃ X, r.named x = X := ⟨_, rfl⟩
  have hXok : X.Ok := by rw [← hX]; exact hx
  have hXp : X.pref = x.pref := by rw [← hX]; rfl
  have hXl : X.len = x.len := by rw [← hX]; rfl
  refine st_cell (i := 0) (v := .int .i64 r.n) p3 (by simp [PackM.cells]) rfl fun w4 i4 k4 => ?_
  rw [s2_undef]
  have k4' : Blk w4 z 39 X.cells := by rw [← hX]; exact k4
  have h4 := h3.keep (S := fun k => k = z) (Mod.of_wr i4 rfl) (fun k hk => by subst hk; exact Classical.byContradiction hfz)
  have y4 := i4.blk y3 (by omega)
  have u4 := i4.blk hb3 (by omega)
  have e5 : IntKind.i64.wrap (r.n + 1) = r.n + 1 := w64 (by omega) (by omega)
  simp -implicitDefEqProofs (maxSteps := 1000000) only [↓zvN, zvU, ↓zvE, zvM, init, one, Value.cells, simprocAttr, tyF, h4.cn ho.cl, e5]
  refine st_cell (i := 20 + 8) (v := .int .i64 (r.n + 1)) h4.pol (by rw [polCells_len ho.cl]; decide) rfl fun w5 i5 k5 => ?_
  rw [s2_undef]
  unfold polCells at k5
  rw [pol_set ho.cl] at k5
  have hpz : a.p ≠ z := fun e => hfz (by rw [← e]; show f a.p ≠ 0; rw [h.tag.p]; decide)
  have hpy : a.p ≠ y := fun e => hfy (by rw [← e]; show f a.p ≠ 0; rw [h.tag.p]; decide)
  have hpu : a.p ≠ u := fun e => hfu (by rw [← e]; show f a.p ≠ 0; rw [h.tag.p]; decide)
  have h5 : PolMem w5 a f r.next := h4.setN (But.of_wr i5) k5
  have z5 := i5.blk k4' hpz.symm
  have y5 := i5.blk y4 hpy.symm
  have u5 := i5.blk u4 hpu.symm
  have m05 : Mod (own f) w w5 := ((Mod.of_more hm03).next (Mod.of_wr (S := fun k => k = z) i4 rfl) (fun k hk e => by omega)).trans (h4.own_p (But.of_wr i5))
  have cs5 : w5.cell? ⟨z, 0, none⟩ = some (.int .i64 r.n) := by rw [z5.cell, ← hX]; rfl
  simp -implicitDefEqProofs (maxSteps := 1000000) only [↓zvN, zvU, ↓zvE, zvM, init, one, Value.cells, simprocAttr, tyF, cs5, ver_build _ w5, zerVd]
  have hm6 := more_alloc w5 (.cells (verC 0 0 0 0 false false).toArray 46)
  have hb6 := Blk.new w5 46 (verC 0 0 0 0 false false).toArray
  obtain ⟨w6, hw6⟩ : ∃ w6, w5.alloc (.cells (verC 0 0 0 0 false false).toArray 46) = w6 := ⟨_, rfl⟩
  rw [hw6] at hm6 hb6 ⊢
  clear hw6
  rw [List.toList_toArray] at hb6
  obtain ⟨v, hv⟩ : ∃ v, w5.heap.size = v := ⟨_, rfl⟩
  have hfv : ¬ own f v := h5.new_free (by omega)
  have hltv : ∀ k, k < w.heap.size → k ≠ v := fun k hk e => by have := m05.size; omega
  have huv : u < v := by rw [← hv]; exact u5.lt
  rw [hv] at hb6 ⊢
  refine st_all hb6 rfl rfl (by rw [List.toList_toArray]; exact ver_one _ _ _ _ _ _) fun w7 i7 k7 => ?_
  rw [s2_undef]
  rw [List.toList_toArray] at k7
  have h7 := (h5.more hm6).keep (S := fun k => k = v) (Mod.of_wr i7 rfl) (fun k hk => by subst hk; exact Classical.byContradiction hfv)
  have z7 := i7.blk (z5.more hm6) (by omega)
  have y7 := i7.blk (y5.more hm6) (by omega)
  have u7 := i7.blk (u5.more hm6) (by omega)
  have m07 : Mod (own f) w w7 := (m05.trans (Mod.of_more hm6)).next (Mod.of_wr (S := fun k => k = v) i7 rfl) (fun k hk e => absurd e (hltv k hk))
  have lp7 := h7.pol.lt
  have lz7 := z7.lt
  have c45X : ∀ {w' : World}, Blk w' z 39 X.cells → w'.cell? ⟨z, 45, none⟩ = some (.int .i64 x.len) := fun hb => by rw [hb.cell, pack_lenAt hXok.1 hXok.2.1, hXl]
  have lpr : ∀ {w' : World}, Blk w' z 39 X.cells → ∀ K : Value → Prop, ldRow 8 ⟨z, 37, none⟩ w' K = K (.agg x.pref.cells.toArray) := fun hb K => by rw [pack_prefAt hXok.1 hXok.2.1 hb, hXp]
  have hon : PolOk r.next := ⟨ho.cl, ho.rt, ho.gok, ho.gb, ho.k0, ho.k1⟩
  have c7wi := h7.cwi hon.cl
  simp -implicitDefEqProofs (maxSteps := 1000000) only [↓zvN, zvU, ↓zvE, zvM, init, one, Value.cells, simprocAttr, tyF]
  refine draw_seen 9 [[], [0], [0, 1], [0, 1, 2], [], [], [5], [], [7], [0, 1, 2, 3, 4, 5, 6, 7, 8], [0, 1, 2, 3, 4, 5, 6, 7, 8, 9]] (RV.look []) mixed (by kernel_rfl) (by kernel_rfl) (look_keeps _ (by simp)) ?_
  simp -implicitDefEqProofs (maxSteps := 1000000) only [↓zvN, zvU, ↓zqD, ↓zvE, zvM, init, one, Value.cells, simprocAttr, tyF, c7wi, lpr z7, c45X z7, lp7, lz7]
  intro w8 hm8
  have h8 := h7.more hm8
  try simp -implicitDefEqProofs (maxSteps := 1000000) only [↓zvN, zvU, ↓zvE, zvM, init, one, Value.cells, simprocAttr, tyF, p_nil]
  refine call_ok Tryz.call54 (window_add w8 a.wi a.sk a.sb r.cap _ _ _ _ _ h8.wi now x.len x.pref hx.2.1) ?_
  rintro _ w9 ⟨rfl, hW9, hm9⟩
  have h9 : PolMem w9 a f (r.next.win x now) := h8.setWi hm9 hW9
  have m89 := h8.own_wi hm9
  have z9 := m89.blk (z7.more hm8) hfz
  have y9 := m89.blk (y7.more hm8) hfy
  have u9 := m89.blk (u7.more hm8) hfu
  have v9 := m89.blk (k7.more hm8) hfv
  have m09 : Mod (own f) w w9 := (m07.trans (Mod.of_more hm8)).trans m89
  obtain ⟨hvy, hhv⟩ : ∃ hvy, r.next.heavy x now = hvy := ⟨_, rfl⟩
  have hhv' : heavyM r.cap (r.next.c.getD 16 0) (winAt now (r.next.c.getD 15 0) r.next.wn r.next.sl r.next.tot).2.1 x.pref x.len = hvy := hhv
  rw [hhv']
  have how : PolOk (r.next.win x now) := ⟨ho.cl, ho.rt, ho.gok, ho.gb, ho.k0, ho.k1⟩
  have lp9 := h9.pol.lt
  have lz9 := z9.lt
  have lv9 := v9.lt
  obtain ⟨r1, hr1⟩ : ∃ r1, r.next.win x now = r1 := ⟨_, rfl⟩
  have hasked : ∀ q, r.asked x now q = r1.ask x now hvy q := fun q => by unfold PolR.asked; rw [hr1, hhv]
  rw [hr1] at h9 how
  clear hhv hhv'
  cases hvy with
  | true =>
    simp -implicitDefEqProofs (maxSteps := 1000000) only [↓zvN, zvU, ↓zvE, zvM, init, one, Value.cells, simprocAttr, tyF]
    refine draw_seen 9 [[], [0], [0, 1], [0, 1, 2], [0, 1, 2, 3], [0, 1, 2, 3, 4], [0, 1], [0, 1, 6], [0, 1], [0, 1, 2, 3, 4, 5, 6, 7, 8], [0, 1, 2, 3, 4, 5, 6, 7, 8, 9], [0, 1, 2, 3, 4, 5, 6, 7, 8, 9, 10]] (RV.look []) mixed (by kernel_rfl) (by kernel_rfl) (look_keeps _ (by simp)) ?_
    simp -implicitDefEqProofs (maxSteps := 1000000) only [↓zvN, zvU, ↓zqD, ↓zvE, zvM, init, one, Value.cells, simprocAttr, tyF, h9.cbx how.cl, lpr z9, lp9, lz9]
    intro w10 hm10
    try simp -implicitDefEqProofs (maxSteps := 1000000) only [↓zvN, zvU, ↓zvE, zvM, init, one, Value.cells, simprocAttr, tyF, p_nil]
    refine call_ok Tryz.call55 (police_in w10 a f r1 (h9.more hm10) x.pref hx.2.1 now) ?_
    rintro _ w11 ⟨rfl, h11, m11⟩
    have z11 := m11.blk (z9.more hm10) hfz
    have y11 := m11.blk (y9.more hm10) hfy
    have u11 := m11.blk (u9.more hm10) hfu
    have v11 := m11.blk (v9.more hm10) hfv
    have m011 : Mod (own f) w w11 := (m09.trans (Mod.of_more hm10)).trans m11
    have hos : PolOk (r1.sweep now) := ⟨how.cl, how.rt, how.gok, how.gb, how.k0, how.k1⟩
    cases hin1 : inB now r1.L x.pref with
    | true =>
      have hask : ∀ q, r.asked x now q = ⟨r1.sweep now, false, false⟩ := fun q => by rw [hasked]; unfold PolR.ask; rw [if_pos rfl, if_pos hin1]
      have hI := hi.asked x now 0
      rw [hask 0] at hI
      try simp -implicitDefEqProofs (maxSteps := 1000000) only [↓zvN, zvU, ↓zvE, zvM, init, one, Value.cells, simprocAttr, tyF, p_nil]
      have F11 : Frm w f w11 f := Frm.of_mod m011
      have lpT := (h11).pol.lt
      have lzT := (z11).lt
      have hoT := (hI).ok
      refine draw_seen 7 [[], [0], [0, 1], [0, 1, 2], [], [4], [], [0, 1, 2, 3, 4, 5, 6]] (RV.look []) mixed (by kernel_rfl) (by kernel_rfl) (look_keeps _ (by simp)) ?_
      simp -implicitDefEqProofs (maxSteps := 1000000) only [↓zvN, zvU, ↓zqD, ↓zvE, zvM, init, one, Value.cells, simprocAttr, tyF, (h11).cbx hoT.cl, lpr z11, lpT, lzT]
      intro wa hma
      try simp -implicitDefEqProofs (maxSteps := 1000000) only [↓zvN, zvU, ↓zvE, zvM, init, one, Value.cells, simprocAttr, tyF, p_nil]
      refine call_ok Tryz.call55 (police_in wa a f (r1.sweep now) ((h11).more hma) x.pref hx.2.1 now) ?_
      rintro _ wb ⟨rfl, hb, mb⟩
      have zb := mb.blk ((z11).more hma) hfz
      have yb := mb.blk ((y11).more hma) hfy
      have ub := mb.blk ((u11).more hma) hfu
      have vb := mb.blk ((v11).more hma) hfv
      have Fb : Frm w f wb f := ((F11).trans (Frm.of_mod (Mod.of_more hma))).trans (Frm.of_mod mb)
      have hIs : PolI (((r1.sweep now)).sweep now) := (hI).of rfl rfl rfl rfl rfl rfl rfl rfl (Int.le_refl _)
      have hltw : ∀ k, k < w.heap.size → k ≠ u := fun k hk e => by have := hm1.size; have := hm2.size; omega
      cases hin2 : inB now ((r1.sweep now)).L x.pref with
      | true =>
        have hroad : ((r1.sweep now)).road X now d0 d1 = ⟨(((r1.sweep now)).sweep now).boxed X now, (((r1.sweep now)).sweep now).boxedNo X now, ((r1.sweep now)).pen, -1⟩ := by unfold PolR.road; rw [hXp, if_pos hin2]
        have harr : r.arrive x now d0 d1 0 = ⟨(((r1.sweep now)).sweep now).boxed X now, (((r1.sweep now)).sweep now).boxedNo X now, if (((r1.sweep now)).sweep now).boxedNo X now = 0 then (((r1.sweep now)).pen : Int) else -1, -1, false, false⟩ := by
          unfold PolR.arrive
          rw [hask 0, hX]
          dsimp only
          rw [hroad]
        simp -implicitDefEqProofs (maxSteps := 1000000) only [↓zvN, zvU, ↓zvE, zvM, init, one, Value.cells, simprocAttr, tyF]
        refine call_ok Tryz.call57 (police_penalty wb a f _ hb hIs.ok) ?_
        rintro _ wc ⟨rfl, rfl⟩
        simp -implicitDefEqProofs (maxSteps := 1000000) only [↓zvN, zvU, ↓zvE, zvM, init, one, Value.cells, simprocAttr, tyF]
        refine st_cell (i := 2) (v := .int .i64 ((((r1.sweep now)).sweep now).pen : Nat)) vb (by simp [verC]) rfl fun wd id kd => ?_
        rw [s2_undef]
        have hd := hb.keep (S := fun k => k = v) (Mod.of_wr id rfl) (fun k hk => by subst hk; exact Classical.byContradiction hfv)
        have zd := id.blk zb (by omega)
        have ud := id.blk ub (by omega)
        obtain ⟨cp, hcp⟩ := hIs.at_c (c := (((r1.sweep now)).sweep now).pen) (Nat.le_refl _)
        obtain ⟨tp, htp, _⟩ := hIs.at_t hcp
        simp -implicitDefEqProofs (maxSteps := 1000000) only [↓zvN, zvU, ↓zvE, zvM, init, one, Value.cells, simprocAttr, tyF, zd.all_eq 46 (pack_len hXok.1 hXok.2.1)]
        refine call_ok Tryz.call58 (police_boxed wd a f _ hd hIs.ok X hXok now hnow hcp (hIs.at_q hcp).1 (hIs.at_q hcp).2 htp) ?_
        rintro _ we ⟨rfl, he, me⟩
        have ve := me.blk kd hfv
        have ue := me.blk ud hfu
        have Fe : Frm w f we f := (Fb.next (Mod.of_wr (S := fun k => k = v) id rfl) (fun k hk e => absurd e (hltv k hk))).next me (fun k hk e => e)
        obtain ⟨no, hno⟩ : ∃ no, (((r1.sweep now)).sweep now).boxedNo X now = no := ⟨_, rfl⟩
        rw [hno] at harr ⊢
        simp -implicitDefEqProofs (maxSteps := 1000000) only [↓zvN, zvU, ↓zvE, zvM, init, one, Value.cells, simprocAttr, tyF]
        refine st_cell (i := 1) (v := .int .i64 no) ve (by simp [verC]) rfl fun wg ig kg => ?_
        rw [s2_undef]
        have hg := he.keep (S := fun k => k = v) (Mod.of_wr ig rfl) (fun k hk => by subst hk; exact Classical.byContradiction hfv)
        have ug := ig.blk ue (by omega)
        have cg1 : wg.cell? ⟨v, 1, none⟩ = some (.int .i64 no) := by rw [kg.cell]; rfl
        have kg' : Blk wg v 46 (verC r.n no (((r1.sweep now)).pen : Nat) (-1) false false) := kg
        have Fg := Fe.next (Mod.of_wr (S := fun k => k = v) ig rfl) (fun k hk e => absurd e (hltv k hk))
        have hcp' : ((((r1.sweep now)).sweep now).pen : Int) = (((r1.sweep now)).pen : Int) := rfl
        simp -implicitDefEqProofs (maxSteps := 1000000) only [↓zvN, zvU, ↓zvE, zvM, init, one, Value.cells, simprocAttr, tyF, cg1]
        by_cases h0 : no = 0
        · have hcl : (if no = 0 then (((r1.sweep now)).pen : Int) else (-1 : Int)) = (((r1.sweep now)).pen : Int) := if_pos h0
          rw [hcl] at harr
          refine ⟨fun _ => ?_, fun h => absurd h0 h⟩
          have lv := (kg').all_eq 6 rfl
          try rw [lv]
          try simp -implicitDefEqProofs (maxSteps := 1000000) only [↓zvN, zvU, ↓zvE, zvM, init, one, Value.cells, simprocAttr, tyF, lv]
          refine st_all ug rfl rfl (by rw [List.toList_toArray]; exact ver_one _ _ _ _ _ _) fun wh ih kh => ?_
          rw [s2_undef]
          rw [List.toList_toArray] at kh
          simp -implicitDefEqProofs (maxSteps := 1000000) only [↓zvN, zvU, ↓zvE, zvM, init, one, Value.cells, simprocAttr, tyF, kh.all_eq 6 rfl]
          refine ⟨0, f, by rw [harr]; rfl, by rw [harr]; exact (hg).keep (S := fun k => k = u) (Mod.of_wr ih rfl) (fun k hk => by subst hk; exact Classical.byContradiction hfu), (Fg).next (Mod.of_wr (S := fun k => k = u) ih rfl) (fun k hk e => absurd e (hltw k hk))⟩
        · have hcl : (if no = 0 then (((r1.sweep now)).pen : Int) else (-1 : Int)) = -1 := if_neg h0
          rw [hcl] at harr
          refine ⟨fun h => absurd h h0, fun _ => ?_⟩
          refine st_cell (i := 2) (v := .int .i64 (-1)) kg' (by simp [verC]) rfl fun wj ij kj => ?_
          rw [s2_undef]
          have kj' : Blk wj v 46 (verC r.n no (-1) (-1) false false) := kj
          have hj := (hg).keep (S := fun k => k = v) (Mod.of_wr ij rfl) (fun k hk => by subst hk; exact Classical.byContradiction hfv)
          have uj := ij.blk ug (by omega)
          have Fj := (Fg).next (Mod.of_wr (S := fun k => k = v) ij rfl) (fun k hk e => absurd e (hltv k hk))
          simp -implicitDefEqProofs (maxSteps := 1000000) only [↓zvN, zvU, ↓zvE, zvM, init, one, Value.cells, simprocAttr, tyF, kj'.all_eq 6 rfl]
          refine st_all uj rfl rfl (by rw [List.toList_toArray]; exact ver_one _ _ _ _ _ _) fun wh ih kh => ?_
          rw [s2_undef]
          rw [List.toList_toArray] at kh
          simp -implicitDefEqProofs (maxSteps := 1000000) only [↓zvN, zvU, ↓zvE, zvM, init, one, Value.cells, simprocAttr, tyF, kh.all_eq 6 rfl]
          refine ⟨0, f, by rw [harr]; rfl, by rw [harr]; exact hj.keep (S := fun k => k = u) (Mod.of_wr ih rfl) (fun k hk => by subst hk; exact Classical.byContradiction hfu), Fj.next (Mod.of_wr (S := fun k => k = u) ih rfl) (fun k hk e => absurd e (hltw k hk))⟩
      | false =>
        have hroad : ((r1.sweep now)).road X now d0 d1 = (((r1.sweep now)).sweep now).free X now d0 d1 := by unfold PolR.road; rw [hXp, if_neg (by rw [hin2]; decide)]
        obtain ⟨fo, hfo⟩ : ∃ fo, (((r1.sweep now)).sweep now).free X now d0 d1 = fo := ⟨_, rfl⟩
        have harr : r.arrive x now d0 d1 0 = ⟨fo.r, fo.no, if fo.no = 0 then fo.cl else -1, fo.vic, false, false⟩ := by
          unfold PolR.arrive
          rw [hask 0, hX]
          dsimp only
          rw [hroad, hfo]
        simp -implicitDefEqProofs (maxSteps := 1000000) only [↓zvN, zvU, ↓zvE, zvM, init, one, Value.cells, simprocAttr, tyF, zb.all_eq 46 (pack_len hXok.1 hXok.2.1), yb.all_eq 2 rfl]
        refine call_ok Tryz.call59 (police_free wb a f _ hb hIs X hXok now d0 d1 hd0 hd1 v r.n false false vb hfv) ?_
        rintro _ we ⟨rfl, he, ve, me⟩
        rw [hfo] at he ve ⊢
        have ue := me.blk ub (by rintro (e | e); exact hfu e; omega)
        have Fe : Frm w f we f := Fb.next me (fun k hk e => by rcases e with e | e; exact e; exact absurd e (hltv k hk))
        obtain ⟨no, hno⟩ : ∃ no, fo.no = no := ⟨_, rfl⟩
        rw [hno] at harr ⊢
        simp -implicitDefEqProofs (maxSteps := 1000000) only [↓zvN, zvU, ↓zvE, zvM, init, one, Value.cells, simprocAttr, tyF]
        refine st_cell (i := 1) (v := .int .i64 no) ve (by simp [verC]) rfl fun wg ig kg => ?_
        rw [s2_undef]
        have hg := he.keep (S := fun k => k = v) (Mod.of_wr ig rfl) (fun k hk => by subst hk; exact Classical.byContradiction hfv)
        have ug := ig.blk ue (by omega)
        have cg1 : wg.cell? ⟨v, 1, none⟩ = some (.int .i64 no) := by rw [kg.cell]; rfl
        have kg' : Blk wg v 46 (verC r.n no fo.cl fo.vic false false) := kg
        have Fg := Fe.next (Mod.of_wr (S := fun k => k = v) ig rfl) (fun k hk e => absurd e (hltv k hk))
        simp -implicitDefEqProofs (maxSteps := 1000000) only [↓zvN, zvU, ↓zvE, zvM, init, one, Value.cells, simprocAttr, tyF, cg1]
        by_cases h0 : no = 0
        · have hcl : (if no = 0 then fo.cl else (-1 : Int)) = fo.cl := if_pos h0
          rw [hcl] at harr
          refine ⟨fun _ => ?_, fun h => absurd h0 h⟩
          have lv := (kg').all_eq 6 rfl
          try rw [lv]
          try simp -implicitDefEqProofs (maxSteps := 1000000) only [↓zvN, zvU, ↓zvE, zvM, init, one, Value.cells, simprocAttr, tyF, lv]
          refine st_all ug rfl rfl (by rw [List.toList_toArray]; exact ver_one _ _ _ _ _ _) fun wh ih kh => ?_
          rw [s2_undef]
          rw [List.toList_toArray] at kh
          simp -implicitDefEqProofs (maxSteps := 1000000) only [↓zvN, zvU, ↓zvE, zvM, init, one, Value.cells, simprocAttr, tyF, kh.all_eq 6 rfl]
          refine ⟨0, f, by rw [harr]; rfl, by rw [harr]; exact (hg).keep (S := fun k => k = u) (Mod.of_wr ih rfl) (fun k hk => by subst hk; exact Classical.byContradiction hfu), (Fg).next (Mod.of_wr (S := fun k => k = u) ih rfl) (fun k hk e => absurd e (hltw k hk))⟩
        · have hcl : (if no = 0 then fo.cl else (-1 : Int)) = -1 := if_neg h0
          rw [hcl] at harr
          refine ⟨fun h => absurd h h0, fun _ => ?_⟩
          refine st_cell (i := 2) (v := .int .i64 (-1)) kg' (by simp [verC]) rfl fun wj ij kj => ?_
          rw [s2_undef]
          have kj' : Blk wj v 46 (verC r.n no (-1) fo.vic false false) := kj
          have hj := (hg).keep (S := fun k => k = v) (Mod.of_wr ij rfl) (fun k hk => by subst hk; exact Classical.byContradiction hfv)
          have uj := ij.blk ug (by omega)
          have Fj := (Fg).next (Mod.of_wr (S := fun k => k = v) ij rfl) (fun k hk e => absurd e (hltv k hk))
          simp -implicitDefEqProofs (maxSteps := 1000000) only [↓zvN, zvU, ↓zvE, zvM, init, one, Value.cells, simprocAttr, tyF, kj'.all_eq 6 rfl]
          refine st_all uj rfl rfl (by rw [List.toList_toArray]; exact ver_one _ _ _ _ _ _) fun wh ih kh => ?_
          rw [s2_undef]
          rw [List.toList_toArray] at kh
          simp -implicitDefEqProofs (maxSteps := 1000000) only [↓zvN, zvU, ↓zvE, zvM, init, one, Value.cells, simprocAttr, tyF, kh.all_eq 6 rfl]
          refine ⟨0, f, by rw [harr]; rfl, by rw [harr]; exact hj.keep (S := fun k => k = u) (Mod.of_wr ih rfl) (fun k hk => by subst hk; exact Classical.byContradiction hfu), Fj.next (Mod.of_wr (S := fun k => k = u) ih rfl) (fun k hk e => absurd e (hltw k hk))⟩
    | false =>
      have lp11 := h11.pol.lt
      have lz11 := z11.lt
      have lv11 := v11.lt
      try simp -implicitDefEqProofs (maxSteps := 1000000) only [↓zvN, zvU, ↓zvE, zvM, init, one, Value.cells, simprocAttr, tyF, p_nil]
      refine draw_seen 7 [[], [0], [0, 1], [0, 1, 2], [], [4], [], [0, 1, 2, 3, 4, 5, 6], [0, 1, 2, 3, 4, 5, 6, 7], [0, 1, 2, 3, 4, 5, 6, 7, 8], [0, 1, 2, 3, 4, 5, 6, 7, 8, 9]] (RV.look []) mixed (by kernel_rfl) (by kernel_rfl) (look_keeps _ (by simp)) ?_
      simp -implicitDefEqProofs (maxSteps := 1000000) only [↓zvN, zvU, ↓zqD, ↓zvE, zvM, init, one, Value.cells, simprocAttr, tyF, h11.cbx hos.cl, lpr z11, lp11, lz11]
      intro w12 hm12
      try simp -implicitDefEqProofs (maxSteps := 1000000) only [↓zvN, zvU, ↓zvE, zvM, init, one, Value.cells, simprocAttr, tyF, p_nil]
      refine call_ok Tryz.call56 (police_put w12 a f (r1.sweep now) (h11.more hm12) x.pref hx.2.1 now hnow) ?_
      rintro _ w13 ⟨rfl, q, f', h13, F1213⟩
      have hz12 : ∀ k, k < w11.heap.size → k < w12.heap.size := fun k hk => Nat.lt_of_lt_of_le hk hm12.size
      have z13 := F1213.blk (z11.more hm12) hfz
      have y13 := F1213.blk (y11.more hm12) hfy
      have u13 := F1213.blk (u11.more hm12) hfu
      have v13 := F1213.blk (v11.more hm12) hfv
      have hfz' := F1213.free (hz12 _ z11.lt) hfz
      have hfy' := F1213.free (hz12 _ y11.lt) hfy
      have hfu' := F1213.free (hz12 _ u11.lt) hfu
      have hfv' := F1213.free (hz12 _ v11.lt) hfv
      have F13 : Frm w f w13 f' := ((Frm.of_mod m011).trans (Frm.of_mod (Mod.of_more hm12))).trans F1213
      obtain ⟨cd, hcd⟩ : ∃ cd, putCode now (r1.sweep now).L (r1.sweep now).room x.pref = cd := ⟨_, rfl⟩
      have hask : r.asked x now q = ⟨(r1.sweep now).put x.pref now q, decide (cd = 0), !decide (cd = 0)⟩ := by
        rw [hasked]
        unfold PolR.ask
        rw [if_pos rfl, if_neg (by rw [hin1]; decide), ← hcd]
        rfl
      have hI := hi.asked x now q
      rw [hask] at hI
      rw [hcd]
      obtain ⟨bb, hbb⟩ : ∃ bb, decide (cd = 0) = bb := ⟨_, rfl⟩
      rw [hbb] at hask hI
      simp -implicitDefEqProofs (maxSteps := 1000000) only [↓zvN, zvU, ↓zvE, zvM, init, one, Value.cells, simprocAttr, tyF, hbb]
      refine st_cell (i := 4) (v := .bool bb) v13 (by simp [verC]) rfl fun w14 i14 k14 => ?_
      rw [s2_undef]
      have c14 : w14.cell? ⟨v, 4, none⟩ = some (.bool bb) := by rw [k14.cell]; rfl
      simp -implicitDefEqProofs (maxSteps := 1000000) only [↓zvN, zvU, ↓zvE, zvM, init, one, Value.cells, simprocAttr, tyF, c14]
      refine st_cell (i := 5) (v := .bool (!bb)) k14 (by simp [verC]) rfl fun w15 i15 k15 => ?_
      rw [s2_undef]
      have i1315 := i14.trans i15
      have h15 := h13.keep (S := fun k => k = v) (Mod.of_wr i1315 rfl) (fun k hk => by subst hk; exact Classical.byContradiction hfv')
      have z15 := i1315.blk z13 (by omega)
      have y15 := i1315.blk y13 (by omega)
      have u15 := i1315.blk u13 (by omega)
      have F15 : Frm w f w15 f' := ⟨F13.mod.next (Mod.of_wr (S := fun k => k = v) i1315 rfl) (fun k hk e => absurd e (hltv k hk)), F13.tag⟩
      have k15' : Blk w15 v 46 (verC r.n 0 (-1) (-1) bb (!bb)) := k15
      try simp -implicitDefEqProofs (maxSteps := 1000000) only [↓zvN, zvU, ↓zvE, zvM, init, one, Value.cells, simprocAttr, tyF, p_nil]
      have lpT := (h15).pol.lt
      have lzT := (z15).lt
      have hoT := (hI).ok
      refine draw_seen 7 [[], [0], [0, 1], [0, 1, 2], [], [4], [], [0, 1, 2, 3, 4, 5, 6]] (RV.look []) mixed (by kernel_rfl) (by kernel_rfl) (look_keeps _ (by simp)) ?_
      simp -implicitDefEqProofs (maxSteps := 1000000) only [↓zvN, zvU, ↓zqD, ↓zvE, zvM, init, one, Value.cells, simprocAttr, tyF, (h15).cbx hoT.cl, lpr z15, lpT, lzT]
      intro wa hma
      try simp -implicitDefEqProofs (maxSteps := 1000000) only [↓zvN, zvU, ↓zvE, zvM, init, one, Value.cells, simprocAttr, tyF, p_nil]
      refine call_ok Tryz.call55 (police_in wa a f' ((r1.sweep now).put x.pref now q) ((h15).more hma) x.pref hx.2.1 now) ?_
      rintro _ wb ⟨rfl, hb, mb⟩
      have zb := mb.blk ((z15).more hma) hfz'
      have yb := mb.blk ((y15).more hma) hfy'
      have ub := mb.blk ((u15).more hma) hfu'
      have vb := mb.blk ((k15').more hma) hfv'
      have Fb : Frm w f wb f' := ((F15).trans (Frm.of_mod (Mod.of_more hma))).trans (Frm.of_mod mb)
      have hIs : PolI ((((r1.sweep now).put x.pref now q)).sweep now) := (hI).of rfl rfl rfl rfl rfl rfl rfl rfl (Int.le_refl _)
      have hltw : ∀ k, k < w.heap.size → k ≠ u := fun k hk e => by have := hm1.size; have := hm2.size; omega
      cases hin2 : inB now (((r1.sweep now).put x.pref now q)).L x.pref with
      | true =>
        have hroad : (((r1.sweep now).put x.pref now q)).road X now d0 d1 = ⟨((((r1.sweep now).put x.pref now q)).sweep now).boxed X now, ((((r1.sweep now).put x.pref now q)).sweep now).boxedNo X now, (((r1.sweep now).put x.pref now q)).pen, -1⟩ := by unfold PolR.road; rw [hXp, if_pos hin2]
        have harr : r.arrive x now d0 d1 q = ⟨((((r1.sweep now).put x.pref now q)).sweep now).boxed X now, ((((r1.sweep now).put x.pref now q)).sweep now).boxedNo X now, if ((((r1.sweep now).put x.pref now q)).sweep now).boxedNo X now = 0 then ((((r1.sweep now).put x.pref now q)).pen : Int) else -1, -1, bb, (!bb)⟩ := by
          unfold PolR.arrive
          rw [hask, hX]
          dsimp only
          rw [hroad]
        simp -implicitDefEqProofs (maxSteps := 1000000) only [↓zvN, zvU, ↓zvE, zvM, init, one, Value.cells, simprocAttr, tyF]
        refine call_ok Tryz.call57 (police_penalty wb a f' _ hb hIs.ok) ?_
        rintro _ wc ⟨rfl, rfl⟩
        simp -implicitDefEqProofs (maxSteps := 1000000) only [↓zvN, zvU, ↓zvE, zvM, init, one, Value.cells, simprocAttr, tyF]
        refine st_cell (i := 2) (v := .int .i64 (((((r1.sweep now).put x.pref now q)).sweep now).pen : Nat)) vb (by simp [verC]) rfl fun wd id kd => ?_
        rw [s2_undef]
        have hd := hb.keep (S := fun k => k = v) (Mod.of_wr id rfl) (fun k hk => by subst hk; exact Classical.byContradiction hfv')
        have zd := id.blk zb (by omega)
        have ud := id.blk ub (by omega)
        obtain ⟨cp, hcp⟩ := hIs.at_c (c := ((((r1.sweep now).put x.pref now q)).sweep now).pen) (Nat.le_refl _)
        obtain ⟨tp, htp, _⟩ := hIs.at_t hcp
        simp -implicitDefEqProofs (maxSteps := 1000000) only [↓zvN, zvU, ↓zvE, zvM, init, one, Value.cells, simprocAttr, tyF, zd.all_eq 46 (pack_len hXok.1 hXok.2.1)]
        refine call_ok Tryz.call58 (police_boxed wd a f' _ hd hIs.ok X hXok now hnow hcp (hIs.at_q hcp).1 (hIs.at_q hcp).2 htp) ?_
        rintro _ we ⟨rfl, he, me⟩
        have ve := me.blk kd hfv'
        have ue := me.blk ud hfu'
        have Fe : Frm w f we f' := (Fb.next (Mod.of_wr (S := fun k => k = v) id rfl) (fun k hk e => absurd e (hltv k hk))).next me (fun k hk e => e)
        obtain ⟨no, hno⟩ : ∃ no, ((((r1.sweep now).put x.pref now q)).sweep now).boxedNo X now = no := ⟨_, rfl⟩
        rw [hno] at harr ⊢
        simp -implicitDefEqProofs (maxSteps := 1000000) only [↓zvN, zvU, ↓zvE, zvM, init, one, Value.cells, simprocAttr, tyF]
        refine st_cell (i := 1) (v := .int .i64 no) ve (by simp [verC]) rfl fun wg ig kg => ?_
        rw [s2_undef]
        have hg := he.keep (S := fun k => k = v) (Mod.of_wr ig rfl) (fun k hk => by subst hk; exact Classical.byContradiction hfv')
        have ug := ig.blk ue (by omega)
        have cg1 : wg.cell? ⟨v, 1, none⟩ = some (.int .i64 no) := by rw [kg.cell]; rfl
        have kg' : Blk wg v 46 (verC r.n no ((((r1.sweep now).put x.pref now q)).pen : Nat) (-1) bb (!bb)) := kg
        have Fg := Fe.next (Mod.of_wr (S := fun k => k = v) ig rfl) (fun k hk e => absurd e (hltv k hk))
        have hcp' : (((((r1.sweep now).put x.pref now q)).sweep now).pen : Int) = ((((r1.sweep now).put x.pref now q)).pen : Int) := rfl
        simp -implicitDefEqProofs (maxSteps := 1000000) only [↓zvN, zvU, ↓zvE, zvM, init, one, Value.cells, simprocAttr, tyF, cg1]
        by_cases h0 : no = 0
        · have hcl : (if no = 0 then ((((r1.sweep now).put x.pref now q)).pen : Int) else (-1 : Int)) = ((((r1.sweep now).put x.pref now q)).pen : Int) := if_pos h0
          rw [hcl] at harr
          refine ⟨fun _ => ?_, fun h => absurd h0 h⟩
          have lv := (kg').all_eq 6 rfl
          try rw [lv]
          try simp -implicitDefEqProofs (maxSteps := 1000000) only [↓zvN, zvU, ↓zvE, zvM, init, one, Value.cells, simprocAttr, tyF, lv]
          refine st_all ug rfl rfl (by rw [List.toList_toArray]; exact ver_one _ _ _ _ _ _) fun wh ih kh => ?_
          rw [s2_undef]
          rw [List.toList_toArray] at kh
          simp -implicitDefEqProofs (maxSteps := 1000000) only [↓zvN, zvU, ↓zvE, zvM, init, one, Value.cells, simprocAttr, tyF, kh.all_eq 6 rfl]
          refine ⟨q, f', by rw [harr]; rfl, by rw [harr]; exact (hg).keep (S := fun k => k = u) (Mod.of_wr ih rfl) (fun k hk => by subst hk; exact Classical.byContradiction hfu'), (Fg).next (Mod.of_wr (S := fun k => k = u) ih rfl) (fun k hk e => absurd e (hltw k hk))⟩
        · have hcl : (if no = 0 then ((((r1.sweep now).put x.pref now q)).pen : Int) else (-1 : Int)) = -1 := if_neg h0
          rw [hcl] at harr
          refine ⟨fun h => absurd h h0, fun _ => ?_⟩
          refine st_cell (i := 2) (v := .int .i64 (-1)) kg' (by simp [verC]) rfl fun wj ij kj => ?_
          rw [s2_undef]
          have kj' : Blk wj v 46 (verC r.n no (-1) (-1) bb (!bb)) := kj
          have hj := (hg).keep (S := fun k => k = v) (Mod.of_wr ij rfl) (fun k hk => by subst hk; exact Classical.byContradiction hfv')
          have uj := ij.blk ug (by omega)
          have Fj := (Fg).next (Mod.of_wr (S := fun k => k = v) ij rfl) (fun k hk e => absurd e (hltv k hk))
          simp -implicitDefEqProofs (maxSteps := 1000000) only [↓zvN, zvU, ↓zvE, zvM, init, one, Value.cells, simprocAttr, tyF, kj'.all_eq 6 rfl]
          refine st_all uj rfl rfl (by rw [List.toList_toArray]; exact ver_one _ _ _ _ _ _) fun wh ih kh => ?_
          rw [s2_undef]
          rw [List.toList_toArray] at kh
          simp -implicitDefEqProofs (maxSteps := 1000000) only [↓zvN, zvU, ↓zvE, zvM, init, one, Value.cells, simprocAttr, tyF, kh.all_eq 6 rfl]
          refine ⟨q, f', by rw [harr]; rfl, by rw [harr]; exact hj.keep (S := fun k => k = u) (Mod.of_wr ih rfl) (fun k hk => by subst hk; exact Classical.byContradiction hfu'), Fj.next (Mod.of_wr (S := fun k => k = u) ih rfl) (fun k hk e => absurd e (hltw k hk))⟩
      | false =>
        have hroad : (((r1.sweep now).put x.pref now q)).road X now d0 d1 = ((((r1.sweep now).put x.pref now q)).sweep now).free X now d0 d1 := by unfold PolR.road; rw [hXp, if_neg (by rw [hin2]; decide)]
        obtain ⟨fo, hfo⟩ : ∃ fo, ((((r1.sweep now).put x.pref now q)).sweep now).free X now d0 d1 = fo := ⟨_, rfl⟩
        have harr : r.arrive x now d0 d1 q = ⟨fo.r, fo.no, if fo.no = 0 then fo.cl else -1, fo.vic, bb, (!bb)⟩ := by
          unfold PolR.arrive
          rw [hask, hX]
          dsimp only
          rw [hroad, hfo]
        simp -implicitDefEqProofs (maxSteps := 1000000) only [↓zvN, zvU, ↓zvE, zvM, init, one, Value.cells, simprocAttr, tyF, zb.all_eq 46 (pack_len hXok.1 hXok.2.1), yb.all_eq 2 rfl]
        refine call_ok Tryz.call59 (police_free wb a f' _ hb hIs X hXok now d0 d1 hd0 hd1 v r.n bb (!bb) vb hfv') ?_
        rintro _ we ⟨rfl, he, ve, me⟩
        rw [hfo] at he ve ⊢
        have ue := me.blk ub (by rintro (e | e); exact hfu' e; omega)
        have Fe : Frm w f we f' := Fb.next me (fun k hk e => by rcases e with e | e; exact e; exact absurd e (hltv k hk))
        obtain ⟨no, hno⟩ : ∃ no, fo.no = no := ⟨_, rfl⟩
        rw [hno] at harr ⊢
        simp -implicitDefEqProofs (maxSteps := 1000000) only [↓zvN, zvU, ↓zvE, zvM, init, one, Value.cells, simprocAttr, tyF]
        refine st_cell (i := 1) (v := .int .i64 no) ve (by simp [verC]) rfl fun wg ig kg => ?_
        rw [s2_undef]
        have hg := he.keep (S := fun k => k = v) (Mod.of_wr ig rfl) (fun k hk => by subst hk; exact Classical.byContradiction hfv')
        have ug := ig.blk ue (by omega)
        have cg1 : wg.cell? ⟨v, 1, none⟩ = some (.int .i64 no) := by rw [kg.cell]; rfl
        have kg' : Blk wg v 46 (verC r.n no fo.cl fo.vic bb (!bb)) := kg
        have Fg := Fe.next (Mod.of_wr (S := fun k => k = v) ig rfl) (fun k hk e => absurd e (hltv k hk))
        simp -implicitDefEqProofs (maxSteps := 1000000) only [↓zvN, zvU, ↓zvE, zvM, init, one, Value.cells, simprocAttr, tyF, cg1]
        by_cases h0 : no = 0
        · have hcl : (if no = 0 then fo.cl else (-1 : Int)) = fo.cl := if_pos h0
          rw [hcl] at harr
          refine ⟨fun _ => ?_, fun h => absurd h0 h⟩
          have lv := (kg').all_eq 6 rfl
          try rw [lv]
          try simp -implicitDefEqProofs (maxSteps := 1000000) only [↓zvN, zvU, ↓zvE, zvM, init, one, Value.cells, simprocAttr, tyF, lv]
          refine st_all ug rfl rfl (by rw [List.toList_toArray]; exact ver_one _ _ _ _ _ _) fun wh ih kh => ?_
          rw [s2_undef]
          rw [List.toList_toArray] at kh
          simp -implicitDefEqProofs (maxSteps := 1000000) only [↓zvN, zvU, ↓zvE, zvM, init, one, Value.cells, simprocAttr, tyF, kh.all_eq 6 rfl]
          refine ⟨q, f', by rw [harr]; rfl, by rw [harr]; exact (hg).keep (S := fun k => k = u) (Mod.of_wr ih rfl) (fun k hk => by subst hk; exact Classical.byContradiction hfu'), (Fg).next (Mod.of_wr (S := fun k => k = u) ih rfl) (fun k hk e => absurd e (hltw k hk))⟩
        · have hcl : (if no = 0 then fo.cl else (-1 : Int)) = -1 := if_neg h0
          rw [hcl] at harr
          refine ⟨fun h => absurd h h0, fun _ => ?_⟩
          refine st_cell (i := 2) (v := .int .i64 (-1)) kg' (by simp [verC]) rfl fun wj ij kj => ?_
          rw [s2_undef]
          have kj' : Blk wj v 46 (verC r.n no (-1) fo.vic bb (!bb)) := kj
          have hj := (hg).keep (S := fun k => k = v) (Mod.of_wr ij rfl) (fun k hk => by subst hk; exact Classical.byContradiction hfv')
          have uj := ij.blk ug (by omega)
          have Fj := (Fg).next (Mod.of_wr (S := fun k => k = v) ij rfl) (fun k hk e => absurd e (hltv k hk))
          simp -implicitDefEqProofs (maxSteps := 1000000) only [↓zvN, zvU, ↓zvE, zvM, init, one, Value.cells, simprocAttr, tyF, kj'.all_eq 6 rfl]
          refine st_all uj rfl rfl (by rw [List.toList_toArray]; exact ver_one _ _ _ _ _ _) fun wh ih kh => ?_
          rw [s2_undef]
          rw [List.toList_toArray] at kh
          simp -implicitDefEqProofs (maxSteps := 1000000) only [↓zvN, zvU, ↓zvE, zvM, init, one, Value.cells, simprocAttr, tyF, kh.all_eq 6 rfl]
          refine ⟨q, f', by rw [harr]; rfl, by rw [harr]; exact hj.keep (S := fun k => k = u) (Mod.of_wr ih rfl) (fun k hk => by subst hk; exact Classical.byContradiction hfu'), Fj.next (Mod.of_wr (S := fun k => k = u) ih rfl) (fun k hk e => absurd e (hltw k hk))⟩
  | false =>
    have hask : ∀ q, r.asked x now q = ⟨r1, false, false⟩ := fun q => by rw [hasked]; unfold PolR.ask; rw [if_neg (by decide)]
    have hI := hi.asked x now 0
    rw [hask 0] at hI
    simp -implicitDefEqProofs (maxSteps := 1000000) only [↓zvN, zvU, ↓zvE, zvM, init, one, Value.cells, simprocAttr, tyF]
    refine draw_seen 9 [[], [0], [0, 1], [0, 1, 2], [0, 1, 2, 3], [0, 1, 2, 3, 4], [0, 1], [0, 1, 6], [0, 1], [0, 1, 2, 3, 4, 5, 6, 7, 8], [0, 1, 2, 3, 4, 5, 6, 7, 8, 9], [0, 1, 2, 3, 4, 5, 6, 7, 8, 9, 10]] (RV.look []) mixed (by kernel_rfl) (by kernel_rfl) (look_keeps _ (by simp)) ?_
    simp -implicitDefEqProofs (maxSteps := 1000000) only [↓zvN, zvU, ↓zqD, ↓zvE, zvM, init, one, Value.cells, simprocAttr, tyF, h9.cbx how.cl, lpr z9, lp9, lz9]
    intro w10 hm10
    try simp -implicitDefEqProofs (maxSteps := 1000000) only [↓zvN, zvU, ↓zvE, zvM, init, one, Value.cells, simprocAttr, tyF, p_nil]
    have h10 := h9.more hm10
    have F10 : Frm w f w10 f := Frm.of_mod (m09.trans (Mod.of_more hm10))
    have z10 := z9.more hm10
    have y10 := y9.more hm10
    have u10 := u9.more hm10
    have v10 := v9.more hm10
    have lpT := (h10).pol.lt
    have lzT := (z10).lt
    have hoT := (hI).ok
    refine draw_seen 7 [[], [0], [0, 1], [0, 1, 2], [], [4], [], [0, 1, 2, 3, 4, 5, 6]] (RV.look []) mixed (by kernel_rfl) (by kernel_rfl) (look_keeps _ (by simp)) ?_
    simp -implicitDefEqProofs (maxSteps := 1000000) only [↓zvN, zvU, ↓zqD, ↓zvE, zvM, init, one, Value.cells, simprocAttr, tyF, (h10).cbx hoT.cl, lpr z10, lpT, lzT]
    intro wa hma
    try simp -implicitDefEqProofs (maxSteps := 1000000) only [↓zvN, zvU, ↓zvE, zvM, init, one, Value.cells, simprocAttr, tyF, p_nil]
    refine call_ok Tryz.call55 (police_in wa a f r1 ((h10).more hma) x.pref hx.2.1 now) ?_
    rintro _ wb ⟨rfl, hb, mb⟩
    have zb := mb.blk ((z10).more hma) hfz
    have yb := mb.blk ((y10).more hma) hfy
    have ub := mb.blk ((u10).more hma) hfu
    have vb := mb.blk ((v10).more hma) hfv
    have Fb : Frm w f wb f := ((F10).trans (Frm.of_mod (Mod.of_more hma))).trans (Frm.of_mod mb)
    have hIs : PolI ((r1).sweep now) := (hI).of rfl rfl rfl rfl rfl rfl rfl rfl (Int.le_refl _)
    have hltw : ∀ k, k < w.heap.size → k ≠ u := fun k hk e => by have := hm1.size; have := hm2.size; omega
    cases hin2 : inB now (r1).L x.pref with
    | true =>
      have hroad : (r1).road X now d0 d1 = ⟨((r1).sweep now).boxed X now, ((r1).sweep now).boxedNo X now, (r1).pen, -1⟩ := by unfold PolR.road; rw [hXp, if_pos hin2]
      have harr : r.arrive x now d0 d1 0 = ⟨((r1).sweep now).boxed X now, ((r1).sweep now).boxedNo X now, if ((r1).sweep now).boxedNo X now = 0 then ((r1).pen : Int) else -1, -1, false, false⟩ := by
        unfold PolR.arrive
        rw [hask 0, hX]
        dsimp only
        rw [hroad]
      simp -implicitDefEqProofs (maxSteps := 1000000) only [↓zvN, zvU, ↓zvE, zvM, init, one, Value.cells, simprocAttr, tyF]
      refine call_ok Tryz.call57 (police_penalty wb a f _ hb hIs.ok) ?_
      rintro _ wc ⟨rfl, rfl⟩
      simp -implicitDefEqProofs (maxSteps := 1000000) only [↓zvN, zvU, ↓zvE, zvM, init, one, Value.cells, simprocAttr, tyF]
      refine st_cell (i := 2) (v := .int .i64 (((r1).sweep now).pen : Nat)) vb (by simp [verC]) rfl fun wd id kd => ?_
      rw [s2_undef]
      have hd := hb.keep (S := fun k => k = v) (Mod.of_wr id rfl) (fun k hk => by subst hk; exact Classical.byContradiction hfv)
      have zd := id.blk zb (by omega)
      have ud := id.blk ub (by omega)
      obtain ⟨cp, hcp⟩ := hIs.at_c (c := ((r1).sweep now).pen) (Nat.le_refl _)
      obtain ⟨tp, htp, _⟩ := hIs.at_t hcp
      simp -implicitDefEqProofs (maxSteps := 1000000) only [↓zvN, zvU, ↓zvE, zvM, init, one, Value.cells, simprocAttr, tyF, zd.all_eq 46 (pack_len hXok.1 hXok.2.1)]
      refine call_ok Tryz.call58 (police_boxed wd a f _ hd hIs.ok X hXok now hnow hcp (hIs.at_q hcp).1 (hIs.at_q hcp).2 htp) ?_
      rintro _ we ⟨rfl, he, me⟩
      have ve := me.blk kd hfv
      have ue := me.blk ud hfu
      have Fe : Frm w f we f := (Fb.next (Mod.of_wr (S := fun k => k = v) id rfl) (fun k hk e => absurd e (hltv k hk))).next me (fun k hk e => e)
      obtain ⟨no, hno⟩ : ∃ no, ((r1).sweep now).boxedNo X now = no := ⟨_, rfl⟩
      rw [hno] at harr ⊢
      simp -implicitDefEqProofs (maxSteps := 1000000) only [↓zvN, zvU, ↓zvE, zvM, init, one, Value.cells, simprocAttr, tyF]
      refine st_cell (i := 1) (v := .int .i64 no) ve (by simp [verC]) rfl fun wg ig kg => ?_
      rw [s2_undef]
      have hg := he.keep (S := fun k => k = v) (Mod.of_wr ig rfl) (fun k hk => by subst hk; exact Classical.byContradiction hfv)
      have ug := ig.blk ue (by omega)
      have cg1 : wg.cell? ⟨v, 1, none⟩ = some (.int .i64 no) := by rw [kg.cell]; rfl
      have kg' : Blk wg v 46 (verC r.n no ((r1).pen : Nat) (-1) false false) := kg
      have Fg := Fe.next (Mod.of_wr (S := fun k => k = v) ig rfl) (fun k hk e => absurd e (hltv k hk))
      have hcp' : (((r1).sweep now).pen : Int) = ((r1).pen : Int) := rfl
      simp -implicitDefEqProofs (maxSteps := 1000000) only [↓zvN, zvU, ↓zvE, zvM, init, one, Value.cells, simprocAttr, tyF, cg1]
      by_cases h0 : no = 0
      · have hcl : (if no = 0 then ((r1).pen : Int) else (-1 : Int)) = ((r1).pen : Int) := if_pos h0
        rw [hcl] at harr
        refine ⟨fun _ => ?_, fun h => absurd h0 h⟩
        have lv := (kg').all_eq 6 rfl
        try rw [lv]
        try simp -implicitDefEqProofs (maxSteps := 1000000) only [↓zvN, zvU, ↓zvE, zvM, init, one, Value.cells, simprocAttr, tyF, lv]
        refine st_all ug rfl rfl (by rw [List.toList_toArray]; exact ver_one _ _ _ _ _ _) fun wh ih kh => ?_
        rw [s2_undef]
        rw [List.toList_toArray] at kh
        simp -implicitDefEqProofs (maxSteps := 1000000) only [↓zvN, zvU, ↓zvE, zvM, init, one, Value.cells, simprocAttr, tyF, kh.all_eq 6 rfl]
        refine ⟨0, f, by rw [harr]; rfl, by rw [harr]; exact (hg).keep (S := fun k => k = u) (Mod.of_wr ih rfl) (fun k hk => by subst hk; exact Classical.byContradiction hfu), (Fg).next (Mod.of_wr (S := fun k => k = u) ih rfl) (fun k hk e => absurd e (hltw k hk))⟩
      · have hcl : (if no = 0 then ((r1).pen : Int) else (-1 : Int)) = -1 := if_neg h0
        rw [hcl] at harr
        refine ⟨fun h => absurd h h0, fun _ => ?_⟩
        refine st_cell (i := 2) (v := .int .i64 (-1)) kg' (by simp [verC]) rfl fun wj ij kj => ?_
        rw [s2_undef]
        have kj' : Blk wj v 46 (verC r.n no (-1) (-1) false false) := kj
        have hj := (hg).keep (S := fun k => k = v) (Mod.of_wr ij rfl) (fun k hk => by subst hk; exact Classical.byContradiction hfv)
        have uj := ij.blk ug (by omega)
        have Fj := (Fg).next (Mod.of_wr (S := fun k => k = v) ij rfl) (fun k hk e => absurd e (hltv k hk))
        simp -implicitDefEqProofs (maxSteps := 1000000) only [↓zvN, zvU, ↓zvE, zvM, init, one, Value.cells, simprocAttr, tyF, kj'.all_eq 6 rfl]
        refine st_all uj rfl rfl (by rw [List.toList_toArray]; exact ver_one _ _ _ _ _ _) fun wh ih kh => ?_
        rw [s2_undef]
        rw [List.toList_toArray] at kh
        simp -implicitDefEqProofs (maxSteps := 1000000) only [↓zvN, zvU, ↓zvE, zvM, init, one, Value.cells, simprocAttr, tyF, kh.all_eq 6 rfl]
        refine ⟨0, f, by rw [harr]; rfl, by rw [harr]; exact hj.keep (S := fun k => k = u) (Mod.of_wr ih rfl) (fun k hk => by subst hk; exact Classical.byContradiction hfu), Fj.next (Mod.of_wr (S := fun k => k = u) ih rfl) (fun k hk e => absurd e (hltw k hk))⟩
    | false =>
      have hroad : (r1).road X now d0 d1 = ((r1).sweep now).free X now d0 d1 := by unfold PolR.road; rw [hXp, if_neg (by rw [hin2]; decide)]
      obtain ⟨fo, hfo⟩ : ∃ fo, ((r1).sweep now).free X now d0 d1 = fo := ⟨_, rfl⟩
      have harr : r.arrive x now d0 d1 0 = ⟨fo.r, fo.no, if fo.no = 0 then fo.cl else -1, fo.vic, false, false⟩ := by
        unfold PolR.arrive
        rw [hask 0, hX]
        dsimp only
        rw [hroad, hfo]
      simp -implicitDefEqProofs (maxSteps := 1000000) only [↓zvN, zvU, ↓zvE, zvM, init, one, Value.cells, simprocAttr, tyF, zb.all_eq 46 (pack_len hXok.1 hXok.2.1), yb.all_eq 2 rfl]
      refine call_ok Tryz.call59 (police_free wb a f _ hb hIs X hXok now d0 d1 hd0 hd1 v r.n false false vb hfv) ?_
      rintro _ we ⟨rfl, he, ve, me⟩
      rw [hfo] at he ve ⊢
      have ue := me.blk ub (by rintro (e | e); exact hfu e; omega)
      have Fe : Frm w f we f := Fb.next me (fun k hk e => by rcases e with e | e; exact e; exact absurd e (hltv k hk))
      obtain ⟨no, hno⟩ : ∃ no, fo.no = no := ⟨_, rfl⟩
      rw [hno] at harr ⊢
      simp -implicitDefEqProofs (maxSteps := 1000000) only [↓zvN, zvU, ↓zvE, zvM, init, one, Value.cells, simprocAttr, tyF]
      refine st_cell (i := 1) (v := .int .i64 no) ve (by simp [verC]) rfl fun wg ig kg => ?_
      rw [s2_undef]
      have hg := he.keep (S := fun k => k = v) (Mod.of_wr ig rfl) (fun k hk => by subst hk; exact Classical.byContradiction hfv)
      have ug := ig.blk ue (by omega)
      have cg1 : wg.cell? ⟨v, 1, none⟩ = some (.int .i64 no) := by rw [kg.cell]; rfl
      have kg' : Blk wg v 46 (verC r.n no fo.cl fo.vic false false) := kg
      have Fg := Fe.next (Mod.of_wr (S := fun k => k = v) ig rfl) (fun k hk e => absurd e (hltv k hk))
      simp -implicitDefEqProofs (maxSteps := 1000000) only [↓zvN, zvU, ↓zvE, zvM, init, one, Value.cells, simprocAttr, tyF, cg1]
      by_cases h0 : no = 0
      · have hcl : (if no = 0 then fo.cl else (-1 : Int)) = fo.cl := if_pos h0
        rw [hcl] at harr
        refine ⟨fun _ => ?_, fun h => absurd h0 h⟩
        have lv := (kg').all_eq 6 rfl
        try rw [lv]
        try simp -implicitDefEqProofs (maxSteps := 1000000) only [↓zvN, zvU, ↓zvE, zvM, init, one, Value.cells, simprocAttr, tyF, lv]
        refine st_all ug rfl rfl (by rw [List.toList_toArray]; exact ver_one _ _ _ _ _ _) fun wh ih kh => ?_
        rw [s2_undef]
        rw [List.toList_toArray] at kh
        simp -implicitDefEqProofs (maxSteps := 1000000) only [↓zvN, zvU, ↓zvE, zvM, init, one, Value.cells, simprocAttr, tyF, kh.all_eq 6 rfl]
        refine ⟨0, f, by rw [harr]; rfl, by rw [harr]; exact (hg).keep (S := fun k => k = u) (Mod.of_wr ih rfl) (fun k hk => by subst hk; exact Classical.byContradiction hfu), (Fg).next (Mod.of_wr (S := fun k => k = u) ih rfl) (fun k hk e => absurd e (hltw k hk))⟩
      · have hcl : (if no = 0 then fo.cl else (-1 : Int)) = -1 := if_neg h0
        rw [hcl] at harr
        refine ⟨fun h => absurd h h0, fun _ => ?_⟩
        refine st_cell (i := 2) (v := .int .i64 (-1)) kg' (by simp [verC]) rfl fun wj ij kj => ?_
        rw [s2_undef]
        have kj' : Blk wj v 46 (verC r.n no (-1) fo.vic false false) := kj
        have hj := (hg).keep (S := fun k => k = v) (Mod.of_wr ij rfl) (fun k hk => by subst hk; exact Classical.byContradiction hfv)
        have uj := ij.blk ug (by omega)
        have Fj := (Fg).next (Mod.of_wr (S := fun k => k = v) ij rfl) (fun k hk e => absurd e (hltv k hk))
        simp -implicitDefEqProofs (maxSteps := 1000000) only [↓zvN, zvU, ↓zvE, zvM, init, one, Value.cells, simprocAttr, tyF, kj'.all_eq 6 rfl]
        refine st_all uj rfl rfl (by rw [List.toList_toArray]; exact ver_one _ _ _ _ _ _) fun wh ih kh => ?_
        rw [s2_undef]
        rw [List.toList_toArray] at kh
        simp -implicitDefEqProofs (maxSteps := 1000000) only [↓zvN, zvU, ↓zvE, zvM, init, one, Value.cells, simprocAttr, tyF, kh.all_eq 6 rfl]
        refine ⟨0, f, by rw [harr]; rfl, by rw [harr]; exact hj.keep (S := fun k => k = u) (Mod.of_wr ih rfl) (fun k hk => by subst hk; exact Classical.byContradiction hfu), Fj.next (Mod.of_wr (S := fun k => k = u) ih rfl) (fun k hk e => absurd e (hltw k hk))⟩
structure PolC (r : PolR) : Prop where
  m : (r.m : Int) = r.c.getD 1 0
  rm : (r.room : Int) = r.c.getD 7 0
  cp : (r.cap : Int) = r.c.getD 6 0
theorem police_waits (w : World) (a : PolA) (f : Nat → Nat) (r : PolR) (h : PolMem w a f r) (hi : PolI r) (hc : PolC r) :
    Ret Tryz.prog 18 #[.pointer (some ⟨a.p, 0, none⟩)] w fun v w' => v = .int .i64 (cntM r.cls) ∧ More w w' := by
  refine ret_of Tryz.func18 rfl (by kernel_rfl) (Nat.le_of_ble_eq_true (by kernel_rfl)) ?_
  have ho := hi.ok
  have lp := h.pol.lt
  have hcm := hc.m
  have hm := hi.m
  have hn := hi.cnt
  have e1 : IntKind.i64.wrap (r.c.getD 1 0 - ((r.m : Int) - (cntM r.cls : Int))) = (cntM r.cls : Int) := by rw [show r.c.getD 1 0 - ((r.m : Int) - (cntM r.cls : Int)) = (cntM r.cls : Int) by omega]; exact w64 (by omega) (by omega)
  simp -implicitDefEqProofs (maxSteps := 1000000) only [↓zvN, zvU, ↓zvE, zvM, init, one, Value.cells, simprocAttr, tyF]
  refine draw_seen 10 [[], [0], [0, 1], [0, 1, 2], [0, 1, 2, 3], [], [5], [5, 6], [5, 6, 7], [5, 6, 7, 8], [0, 1, 2, 3, 4, 5, 6, 7, 8, 9], [0, 1, 2, 3, 4, 5, 6, 7, 8, 9, 10]] (RV.look [(9, IsV (.int .i64 ((r.m : Int) - (cntM r.cls : Int))))]) mixed (by kernel_rfl) (by kernel_rfl) (look_keeps _ (by
    intro y hy
    simp only [List.mem_cons, List.not_mem_nil, or_false] at hy
    rcases hy with rfl
    exact keepsV _)) ?_
  simp -implicitDefEqProofs (maxSteps := 1000000) only [↓zvN, zvU, ↓zqD, ↓zvE, zvM, init, one, Value.cells, simprocAttr, tyF, h.cs ho.cl, h.cfg ho.cl (k := 1) (by decide), lp, e1]
  refine ⟨fun w1 hm1 => ?_, ?_⟩
  · refine call_ok Tryz.call65 (store_free w1 a.st r.cls r.m (h.more hm1).st) ?_
    rintro _ w2 ⟨rfl, rfl⟩
    simp -implicitDefEqProofs (maxSteps := 1000000) only [↓zvN, zvU, ↓zqD, ↓zvE, zvM, init, one, Value.cells, simprocAttr, tyF]
    exact ⟨More.refl _, rfl⟩
  rintro _ ⟨w1, hm1, rfl⟩
  simp -implicitDefEqProofs (maxSteps := 1000000) only [↓zvN, zvU, ↓zqD, ↓zvE, zvM, init, one, Value.cells, simprocAttr, tyF, h.cs ho.cl, h.cfg ho.cl (k := 1) (by decide), lp, e1]
  intro w2 hm2 _
  try simp -implicitDefEqProofs (maxSteps := 1000000) only [↓zvN, zvU, ↓zvE, zvM, init, one, Value.cells, simprocAttr, tyF, p_nil, e1]
  first | exact hm2 | exact ⟨rfl, hm2⟩
theorem police_all (w : World) (a : PolA) (f : Nat → Nat) (r : PolR) (h : PolMem w a f r) (ho : PolOk r) (now : Int) :
    Ret Tryz.prog 16 #[.pointer (some ⟨a.p, 0, none⟩), .int .i64 now] w fun v w' => ∃ A c, v = .slice A (sweepL now r.L).length c ∧ Cs w' A ((keysM (sweepL now r.L)).flatMap PrefM.cells) ∧ (∀ x, A = some x → w.heap.size ≤ x.block) ∧ PolMem w' a f (r.sweep now) ∧ Mod (own f) w w' := by
  refine ret_of Tryz.func16 rfl (by kernel_rfl) (Nat.le_of_ble_eq_true (by kernel_rfl)) ?_
  simp -implicitDefEqProofs (maxSteps := 1000000) only [↓zvN, zvU, ↓zvE, zvM, init, one, Value.cells, simprocAttr, tyF, h.cbx ho.cl]
  refine call_ok Tryz.call60 (box_all w a.bx a.bb a.bt r.room _ _ _ r.L now h.bx) ?_
  rintro _ w1 ⟨A, c, rfl, hA, hAg, hB, hm⟩
  obtain ⟨k1, k2⟩ := h.setBx (hm.mono fun k _ hk => .inl hk) hB mem_sweepE
  simp -implicitDefEqProofs (maxSteps := 1000000) only [↓zvN, zvU, ↓zvE, zvM, init, one, Value.cells, simprocAttr, tyF]
  exact ⟨A, c, rfl, hA, hAg, k1, k2⟩
theorem range_get {m j p : Nat} (h : (List.range m)[j]? = some p) : p = j ∧ j < m := by
  have hl := (List.getElem?_eq_some_iff.1 h).1
  rw [List.length_range] at hl
  rw [List.getElem?_range hl] at h
  exact ⟨(Option.some.inj h).symm, hl⟩
theorem nth_range (m j : Nat) : nthI (List.range m) j = if j < m then (j : Int) else -1 := by
  unfold nthI
  by_cases h : j < m
  · rw [List.getElem?_range h, if_pos h]
  · rw [List.getElem?_eq_none (by simp; omega), if_neg h]
theorem cnt_rep (k : Nat) : cntM (List.replicate k []) = 0 := by
  unfold cntM
  rw [List.map_replicate]
  induction k with
  | zero => rfl
  | succ k ih => rw [List.replicate_succ, List.sum_cons, ih]; rfl
theorem StInv.fresh (k m : Nat) (hk : k ≤ 129) (hm : 1 ≤ m ∧ m ≤ 4096) : StInv (List.replicate k []) m (List.replicate k []) (List.range m) (List.replicate k lineZ) (List.replicate m linkZ) (plcs m) 0 m := by
  refine ⟨by simp, by simp, by simp, by simp [plcs], ?_, ?_, ?_, ?_, ?_, List.nodup_range, ?_, by simp, by rw [cnt_rep]; simp, ?_, hm.2, by simpa using hk⟩
  · intro l x xs hx hxs
    have e1 := List.eq_of_mem_replicate (List.mem_of_getElem? hx)
    have e2 := List.eq_of_mem_replicate (List.mem_of_getElem? hxs)
    subst e1 e2
    exact ⟨⟨rfl, rfl, fun j p h => by simp at h, by simp⟩, rfl⟩
  · intro l xs cl hxs hcl
    rw [List.eq_of_mem_replicate (List.mem_of_getElem? hxs), List.eq_of_mem_replicate (List.mem_of_getElem? hcl)]
    rfl
  · intro l xs cl hxs hcl j p pk hj hp
    rw [List.eq_of_mem_replicate (List.mem_of_getElem? hxs)] at hj
    simp at hj
  · intro l xs hxs
    rw [List.eq_of_mem_replicate (List.mem_of_getElem? hxs)]
    exact List.nodup_nil
  · intro j p hp
    obtain ⟨rfl, hj⟩ := range_get hp
    constructor
    · refine ⟨packZ, ?_⟩
      unfold plcs
      rw [List.getElem?_map, List.getElem?_range hj, nth_range]
      simp only [Option.map_some]
      congr 2
      by_cases h : p + 1 = m
      · rw [if_pos h, if_neg (by omega)]
      · rw [if_neg h, if_pos (by omega)]
        omega
    · rw [List.getElem?_replicate, if_pos hj]
      rfl
  · rw [nth_range, if_pos (by omega)]
    rfl
  · intro cl hcl pk hpk
    rw [List.eq_of_mem_replicate hcl] at hpk
    cases hpk
theorem zeros_bytes (k : Nat) : ints ((List.replicate k []).map bytesM) = ints (List.replicate k 0) := by rw [List.map_replicate]; rfl
theorem StZ.w {w : World} {B U s : Nat} {c : List Int} {k : Nat} (h : StZ w B U s c k) (hr : rightM c) (hk : k ≤ 129) : ∃ a : StA, ∃ m : Nat, a.s = s ∧ (m : Int) = c.getD 1 0 ∧ a.y < U ∧ StoreW w a (List.replicate k []) m ∧ (∀ q, (q = a.s ∨ q = a.cp ∨ a.own q) → B ≤ q) := by
  obtain ⟨sb, sp, cb, cc, cp, y, m, h1, h2, h3⟩ := h.ex
  have hp := hr 1 (by decide)
  have hp' : 1 ≤ c.getD 1 0 ∧ c.getD 1 0 ≤ 4096 := hp
  have hm : 1 ≤ m ∧ m ≤ 4096 := by omega
  refine ⟨⟨s, y, sp, sb, cp, cb, cc⟩, m, rfl, h1, h2, ⟨?_, ?_, ?_⟩, ?_⟩
  · have := h3.st
    rw [List.length_replicate]
    exact this
  · rw [zeros_bytes]
    exact h3.bytes
  · refine ⟨_, _, _, _, _, _, _, StInv.fresh k m hk hm, ⟨?_, h3.places, ?_, ?_⟩, ⟨?_, h3.lines, h3.links, ?_, ?_⟩⟩
    · have := h3.slab
      unfold slabC
      rw [show (plcs m).length = m by simp [plcs]]
      exact this
    · intro q hq
      unfold plcs at hq
      obtain ⟨i, _, rfl⟩ := List.mem_map.1 hq
      exact packZ_fit
    · simp [plcs]; omega
    · have := h3.chains
      unfold chC
      rw [List.length_replicate, List.length_replicate]
      exact this
    · simpa using hk
    · simp; omega
  · obtain ⟨g1, g2, g3, g4, g5, g6, g7⟩ := h3.ge
    rintro q (rfl | rfl | h)
    · exact g1
    · exact g6
    · rcases h with rfl | (rfl | rfl) | (rfl | rfl)
      · exact g7
      · exact g3
      · exact g2
      · exact g4
      · exact g5
theorem sum_rep (r : Int) (hr : 0 ≤ r) (k : Nat) : sumOver r (List.replicate k 0) = 0 := by
  unfold sumOver
  rw [List.map_replicate]
  have : overM r 0 = 0 := by unfold overM; omega
  rw [this]
  induction k with
  | zero => rfl
  | succ k ih => rw [List.replicate_succ, List.sum_cons, ih]; rfl
theorem QuotaZ.w {w : World} {B q : Nat} {c : List Int} {k : Nat} (h : QuotaZ w B q c k) (hr : rightM c) (hk : k ≤ 129) : ∃ ql, B ≤ ql ∧ B ≤ q ∧ QuotaW w q ql (c.getD 9 0) (c.getD 10 0) (List.replicate k 0) := by
  obtain ⟨b, h1, h2, h3, h4, h5⟩ := h.ex
  have r9 : 0 ≤ c.getD 9 0 ∧ c.getD 9 0 ≤ 1073741824 := hr 9 (by decide)
  have r10 : 0 ≤ c.getD 10 0 ∧ c.getD 10 0 ≤ 1073741824 := hr 10 (by decide)
  refine ⟨b, h1, h2, ⟨?_, h4, r9, r10, by simpa using hk, ?_⟩⟩
  · rw [sum_rep _ r9.1, List.length_replicate]
    exact h5
  · intro n hn
    rw [List.eq_of_mem_replicate hn]
    decide
theorem TurnsZ.w {w : World} {B t : Nat} {c : List Int} {k : Nat} (h : TurnsZ w B t c k) (hr : rightM c) (hk : k ≤ 129) : ∃ a : TuA, a.t = t ∧ TurnsW w a (c.getD 8 0) (List.replicate k ⟨false, false, 0⟩) [] ∧ ∀ q, a.own q → B ≤ q := by
  obtain ⟨b, y, h1, h2, h3, h4, h5, h6, h7, h8, h9⟩ := h.ex
  have r8 : 9216 ≤ c.getD 8 0 ∧ c.getD 8 0 ≤ 1073741824 := hr 8 (by decide)
  refine ⟨⟨t, b, y⟩, rfl, ⟨?_, h7, ⟨List.replicate k 0, by simp, h8⟩, List.nodup_nil, ?_, by simpa using hk, by omega, ?_⟩, ?_⟩
  · rw [List.length_replicate]
    exact h9
  · intro d
    constructor
    · intro h; cases h
    · rintro ⟨x, hx, hxa⟩
      rw [List.eq_of_mem_replicate (List.mem_of_getElem? hx)] at hxa
      cases hxa
  · intro x hx
    rw [List.eq_of_mem_replicate hx]
    exact ⟨by decide, by decide, fun e => by cases e⟩
  · rintro q (rfl | rfl | rfl)
    · exact h3
    · exact h1
    · exact h2
theorem BlueZ.w {w : World} {B U x : Nat} {c : List Int} (h : BlueZ w B U x c) (hr : rightM c) : ∃ y, B ≤ y ∧ B ≤ x ∧ y < U ∧ x < U ∧ BlueW w x y (blueK c) (List.replicate (c.getD 2 0 * c.getD 3 0).toNat ⟨0, 0, 0⟩) := by
  obtain ⟨b, n, h1, h2, h3, h4, h7, h5, h6⟩ := h.ex
  have r2 : 1 ≤ c.getD 2 0 ∧ c.getD 2 0 ≤ 4 := hr 2 (by decide)
  have r3 : 1 ≤ c.getD 3 0 ∧ c.getD 3 0 ≤ 64 := hr 3 (by decide)
  have r4 : 0 ≤ c.getD 4 0 ∧ c.getD 4 0 ≤ 65536 := hr 4 (by decide)
  have r5 : 0 ≤ c.getD 5 0 ∧ c.getD 5 0 ≤ 65536 := hr 5 (by decide)
  have r13 : 0 ≤ c.getD 13 0 ∧ c.getD 13 0 ≤ 1073741824 := hr 13 (by decide)
  have r14 : 0 ≤ c.getD 14 0 ∧ c.getD 14 0 ≤ 4611686018427387903 := hr 14 (by decide)
  have e2 : (((c.getD 2 0).toNat : Nat) : Int) = c.getD 2 0 := by omega
  have e3 : (((c.getD 3 0).toNat : Nat) : Int) = c.getD 3 0 := by omega
  have en : n = (c.getD 2 0).toNat * (c.getD 3 0).toNat := by
    have : (n : Int) = (((c.getD 2 0).toNat * (c.getD 3 0).toNat : Nat) : Int) := by rw [h1, Int.natCast_mul, e2, e3]
    omega
  have en2 : (c.getD 2 0 * c.getD 3 0).toNat = n := by rw [← h1]; rfl
  rw [en2]
  refine ⟨b, h2, h3, h7, h.lt, ⟨?_, h5, ⟨?_, ?_, r13, r14, r4, r5⟩, ?_⟩⟩
  · unfold BlueK.cells blueK
    rw [e2, e3, ← en]
    exact h6
  · unfold blueK; simp only; omega
  · unfold blueK; simp only; omega
  · rw [List.length_replicate, en]; rfl
theorem WinZ.w {w : World} {B wi : Nat} {c : List Int} (h : WinZ w B wi c) (hr : rightM c) : ∃ q b cap : Nat, (cap : Int) = c.getD 6 0 ∧ WinW w wi q b cap (c.getD 15 0) (c.getD 16 0) 0 [] 0 ∧ ∀ k, trio wi q b k → B ≤ k := by
  obtain ⟨b, y, n, cs, h1, h2, h3, h4, h5, h6, h7, h8, h9, h10, h11⟩ := h.ex
  have r6 : 1 ≤ c.getD 6 0 ∧ c.getD 6 0 ≤ 64 := hr 6 (by decide)
  have r15 : 1 ≤ c.getD 15 0 ∧ c.getD 15 0 ≤ 4611686018427387903 := hr 15 (by decide)
  have r16 : 1 ≤ c.getD 16 0 ∧ c.getD 16 0 ≤ 4611686018427387903 := hr 16 (by decide)
  refine ⟨y, b, n, h1, ⟨h11, ⟨h10, ⟨cs, h9, by simpa using h8⟩, (fun x hx => (by cases hx)), by omega, Nat.zero_le _, (fun x hx => (by cases hx))⟩, r15, r16⟩, ?_⟩
  rintro k (rfl | rfl | rfl)
  · exact h4
  · exact h3
  · exact h2
theorem BoxZ.w {w : World} {B bx : Nat} {c : List Int} (h : BoxZ w B bx c) (hr : rightM c) : ∃ b t room : Nat, (room : Int) = c.getD 7 0 ∧ BoxW w bx b t room (c.getD 17 0) (c.getD 18 0) (c.getD 19 0) [] ∧ ∀ k, (k = bx ∨ duoT b t k) → B ≤ k := by
  obtain ⟨b, y, n, h1, h2, h3, h4, h5, h6, h7, h8, h9, h10⟩ := h.ex
  have r7 : 1 ≤ c.getD 7 0 ∧ c.getD 7 0 ≤ 64 := hr 7 (by decide)
  have r17 : 1 ≤ c.getD 17 0 ∧ c.getD 17 0 ≤ 4611686018427387903 := hr 17 (by decide)
  have r18 : 0 ≤ c.getD 18 0 ∧ c.getD 18 0 ≤ 1073741824 := hr 18 (by decide)
  have r19 : 1 ≤ c.getD 19 0 ∧ c.getD 19 0 ≤ 1073741824 := hr 19 (by decide)
  obtain ⟨room, hroom⟩ := Int.eq_ofNat_of_zero_le (show 0 ≤ c.getD 7 0 by omega)
  have hroom' : (room : Int) = c.getD 7 0 := hroom.symm
  obtain rfl : n = 2 * room := by omega
  refine ⟨b, y, room, hroom', ⟨h10, ⟨_, ⟨h8, ?_, h5, ?_, ?_, ?_⟩, TabRel.new room (by omega) [.int .i64 0, .pointer none], ?_⟩, ⟨fun e he => (by cases he), fun e he => (by cases he), fun e he => (by cases he)⟩, ⟨fun e => h6 e.symm, fun e => h7 e.symm⟩, by omega, ⟨by omega, r17, r18.1, r18.2, r19⟩⟩, ?_⟩
  · rw [List.length_replicate]
    rw [hroom']
    exact h9
  · intro x hx
    rw [List.eq_of_mem_replicate hx]
    exact zplOk_box 0
  · rw [List.length_replicate]; omega
  · rw [List.length_replicate]; omega
  · intro x hx
    rw [List.eq_of_mem_replicate hx]
    exact ⟨0, none, rfl⟩
  · rintro k (rfl | rfl | rfl)
    · exact h4
    · exact h2
    · exact h3
def polR0 (c : List Int) (key : List UInt8) : PolR :=
  { c := c, g := ⟨c.getD 0 0, key, noBytes 16, 0, false, 0, 0⟩, cls := List.replicate (2 * c.getD 0 0 + 1).toNat [], m := (c.getD 1 0).toNat, qs := List.replicate (2 * c.getD 0 0 + 1).toNat 0, tl := List.replicate (2 * c.getD 0 0 + 1).toNat ⟨false, false, 0⟩, line := [],
    b0 := List.replicate (c.getD 2 0 * c.getD 3 0).toNat ⟨0, 0, 0⟩, b1 := List.replicate (c.getD 2 0 * c.getD 3 0).toNat ⟨0, 0, 0⟩, cap := (c.getD 6 0).toNat, sl := [], tot := 0, wn := 0, room := (c.getD 7 0).toNat, L := [], n := 0 }
theorem polR0_ok {c : List Int} {key : List UInt8} (hc : c.length = 20) (hk : key.length = 16) (hr : rightM c) : PolI (polR0 c key) := by
  have r0 : 1 ≤ c.getD 0 0 ∧ c.getD 0 0 ≤ 64 := hr 0 (by decide)
  have r1 : 1 ≤ c.getD 1 0 ∧ c.getD 1 0 ≤ 4096 := hr 1 (by decide)
  have hno : ∀ (d : Nat) (cl : List PackM), (polR0 c key).cls[d]? = some cl → cl = [] := fun d cl h => List.eq_of_mem_replicate (List.mem_of_getElem? h)
  have hseq : seqsM (polR0 c key).cls = [] := by
    unfold seqsM polR0
    simp only
    generalize (2 * c.getD 0 0 + 1).toNat = k
    induction k with
    | zero => rfl
    | succ k ih => rw [List.replicate_succ, List.flatten_cons, List.nil_append]; exact ih
  refine ⟨⟨hc, hr, ⟨hk, rfl, r0, .inl rfl, ⟨Int.le_refl _, by show (0 : Int) ≤ c.getD 0 0; omega⟩, fun e => by cases e⟩, rfl, ?_, ?_⟩, ?_, ?_, ?_, ?_, ?_, ?_, ?_, ?_, ?_, ?_⟩
  · intro y hy
    rw [List.eq_of_mem_replicate hy]
    exact ⟨by decide, by decide, by decide⟩
  · intro y hy
    rw [List.eq_of_mem_replicate hy]
    exact ⟨by decide, by decide, by decide⟩
  · unfold polR0
    simp only [List.map_replicate]
    rfl
  · unfold polR0 PolR.pen PolR.B
    simp only [List.length_replicate]
    omega
  · unfold polR0
    simp only [List.length_replicate]
  · intro d t cl ht hcl
    rw [hno d cl hcl, List.eq_of_mem_replicate (List.mem_of_getElem? ht)]
    simp
  · intro cl hcl pk hpk
    obtain ⟨d, hd⟩ := List.getElem?_of_mem hcl
    rw [hno d cl hd] at hpk
    cases hpk
  · show cntM (List.replicate _ []) ≤ _
    rw [cnt_rep]
    omega
  · show (c.getD 1 0).toNat ≤ 4096
    omega
  · intro d cl pk _ hcl hpk
    rw [hno d cl hcl] at hpk
    cases hpk
  · rw [hseq]; exact List.nodup_nil
  · rw [hseq]
    intro s hs
    cases hs
theorem polR0_c {c : List Int} {key : List UInt8} (hr : rightM c) : PolC (polR0 c key) := by
  have r1 : 1 ≤ c.getD 1 0 ∧ c.getD 1 0 ≤ 4096 := hr 1 (by decide)
  have r6 : 1 ≤ c.getD 6 0 ∧ c.getD 6 0 ≤ 64 := hr 6 (by decide)
  have r7 : 1 ≤ c.getD 7 0 ∧ c.getD 7 0 ≤ 64 := hr 7 (by decide)
  refine ⟨?_, ?_, ?_⟩
  · show (((c.getD 1 0).toNat : Nat) : Int) = c.getD 1 0; omega
  · show (((c.getD 7 0).toNat : Nat) : Int) = c.getD 7 0; omega
  · show (((c.getD 6 0).toNat : Nat) : Int) = c.getD 6 0; omega
theorem lookup_mem : ∀ {l : List (Nat × Nat)} {k v : Nat}, (l.map Prod.fst).Nodup → (k, v) ∈ l → (l.lookup k).getD 0 = v
  | [], _, _, _, h => by cases h
  | x :: l, k, v, hn, h => by
    rw [List.map_cons, List.nodup_cons] at hn
    rcases List.mem_cons.1 h with rfl | h1
    · simp [List.lookup]
    · have : k ≠ x.1 := by
        rintro rfl
        exact hn.1 (List.mem_map.2 ⟨_, h1, rfl⟩)
      rw [List.lookup, beq_eq_false_iff_ne.2 this]
      exact lookup_mem hn.2 h1
theorem lookup_in : ∀ {l : List (Nat × Nat)} {k : Nat}, (l.lookup k).getD 0 ≠ 0 → k ∈ l.map Prod.fst
  | [], _, h => by simp [List.lookup] at h
  | x :: l, k, h => by
    by_cases e : k = x.1
    · rw [e]; simp
    · rw [List.lookup, beq_eq_false_iff_ne.2 e] at h
      rw [List.map_cons, List.mem_cons]
      exact .inr (lookup_in h)
theorem nodup_apart {w : World} {l : List (Nat × Nat)} (hb : ∀ x ∈ l, ∃ cs, Blk w x.1 x.2 cs) (hp : l.Pairwise fun x y => x.2 = y.2 → x.1 ≠ y.1) : (l.map Prod.fst).Nodup := by
  unfold List.Nodup
  rw [List.pairwise_map]
  refine hp.imp_of_mem ?_
  intro x y hx hy h e
  obtain ⟨cs, h1⟩ := hb x hx
  obtain ⟨cs', h2⟩ := hb y hy
  rw [e] at h1
  exact h (blk_ty h1 h2) e
def polTypes : List Nat := [133, 220, 228, 2, 330, 332, 323, 325, 327, 230, 2, 233, 272, 3, 236, 278, 236, 278, 241, 335, 253, 251, 344, 338]
theorem PolZ.memT {w : World} {B p : Nat} {c : List Int} {key : List UInt8} (h : PolZ w B p c key) (hc : c.length = 20) (hk : key.length = 16) (hr : rightM c) : ∃ a f, a.p = p ∧ PolMem w a f (polR0 c key) ∧ ∀ k, own f k → B ≤ k ∧ ∀ T cs, Blk w k T cs → T ∈ polTypes := by
  have hge := h.ge
  obtain ⟨g, s, q, t, x0, x1, wi, bx, k, U, V, W, hU, hV, h1, h2, h3, h4, h5, h6, h7, h8, h9, h10, h11⟩ := h.ex
  have r0 : 1 ≤ c.getD 0 0 ∧ c.getD 0 0 ≤ 64 := hr 0 (by decide)
  obtain ⟨sa, m, es, em, hsy, hS, hSB⟩ := h5.w hr (by omega)
  obtain ⟨ql, hql, hqq, hQ⟩ := h6.w hr (by omega)
  obtain ⟨ta, et, hT, hTB⟩ := h7.w hr (by omega)
  obtain ⟨y0, hy0a, hx0a, hy0b, hx0b, hB0⟩ := h8.w hr
  obtain ⟨y1, hy1a, hx1a, hy1b, hx1b, hB1⟩ := h9.w hr
  obtain ⟨sk, sb, cap, ecap, hW, hWB⟩ := h10.w hr
  obtain ⟨bb, bt, room, eroom, hX, hXB⟩ := h11.w hr
  have ek : (2 * c.getD 0 0 + 1).toNat = k := by omega
  have em' : (c.getD 1 0).toNat = m := by omega
  have ec' : (c.getD 6 0).toNat = cap := by omega
  have er' : (c.getD 7 0).toNat = room := by omega
  obtain ⟨paths, fl, ls, ks, ps, first, free, g1, g2, g3⟩ := hS.ex
  obtain ⟨rest, hln1, hln2⟩ := hT.ln
  obtain ⟨srest, hsk1, hsk2⟩ := hW.sk.row
  obtain ⟨tls, htab, _, _⟩ := hX.tab
  obtain ⟨l, hl⟩ : ∃ l : List (Nat × Nat), [(p, 133), (g, 220), (sa.s, 228), (sa.y, 2), (sa.sp, 330), (sa.sb, 332), (sa.cp, 323), (sa.cb, 325), (sa.cc, 327), (q, 230), (ql, 2), (ta.t, 233), (ta.tb, 272), (ta.ty, 3), (x0, 236), (y0, 278), (x1, 236), (y1, 278), (wi, 241), (sk, 335), (sb, 253), (bx, 251), (bb, 344), (bt, 338)] = l := ⟨_, rfl⟩
  have hblk : ∀ x ∈ l, ∃ cs, Blk w x.1 x.2 cs := by
    rw [← hl]
    simp only [List.mem_cons, List.not_mem_nil, or_false, forall_eq_or_imp, forall_eq]
    exact ⟨⟨_, h2⟩, ⟨_, h4⟩, ⟨_, hS.st⟩, ⟨_, hS.bytes⟩, ⟨_, g2.blk⟩, ⟨_, g2.rows⟩, ⟨_, g3.blk⟩, ⟨_, g3.lines⟩, ⟨_, g3.links⟩, ⟨_, hQ.blk⟩, ⟨_, hQ.row⟩, ⟨_, hT.blk⟩, ⟨_, hT.row⟩, ⟨_, hln2⟩, ⟨_, hB0.blk⟩, ⟨_, hB0.row⟩, ⟨_, hB1.blk⟩, ⟨_, hB1.row⟩, ⟨_, hW.blk⟩, ⟨_, hW.sk.blk⟩, ⟨_, hsk1⟩, ⟨_, hX.box⟩, ⟨_, htab.row⟩, ⟨_, htab.tab⟩⟩
  have hnd : (l.map Prod.fst).Nodup := by
    refine nodup_apart hblk ?_
    have n1 : sa.y ≠ ql := by omega
    have n2 : x0 ≠ x1 := by omega
    have n3 : y0 ≠ y1 := by omega
    rw [← hl]
    simp [n1, n2, n3]
  have hBl : ∀ x ∈ l.map Prod.fst, B ≤ x ∧ x < w.heap.size := by
    intro x hx
    obtain ⟨e, he, rfl⟩ := List.mem_map.1 hx
    obtain ⟨cs, hcs⟩ := hblk e he
    refine ⟨?_, hcs.lt⟩
    have o1 : p + 1 ≤ sa.s := hSB _ (.inl rfl)
    have o2 : p + 1 ≤ sa.y := hSB _ (.inr (.inr (.inl rfl)))
    have o3 : p + 1 ≤ sa.sp := hSB _ (.inr (.inr (.inr (.inl (.inl rfl)))))
    have o4 : p + 1 ≤ sa.sb := hSB _ (.inr (.inr (.inr (.inl (.inr rfl)))))
    have o5 : p + 1 ≤ sa.cp := hSB _ (.inr (.inl rfl))
    have o6 : p + 1 ≤ sa.cb := hSB _ (.inr (.inr (.inr (.inr (.inl rfl)))))
    have o7 : p + 1 ≤ sa.cc := hSB _ (.inr (.inr (.inr (.inr (.inr rfl)))))
    have o8 : p + 1 ≤ ta.t := hTB _ (.inl rfl)
    have o9 : p + 1 ≤ ta.tb := hTB _ (.inr (.inl rfl))
    have o10 : p + 1 ≤ ta.ty := hTB _ (.inr (.inr rfl))
    have o11 : p + 1 ≤ wi := hWB _ (.inl rfl)
    have o12 : p + 1 ≤ sk := hWB _ (.inr (.inl rfl))
    have o13 : p + 1 ≤ sb := hWB _ (.inr (.inr rfl))
    have o14 : p + 1 ≤ bx := hXB _ (.inl rfl)
    have o15 : p + 1 ≤ bb := hXB _ (.inr (.inl rfl))
    have o16 : p + 1 ≤ bt := hXB _ (.inr (.inr rfl))
    rw [← hl] at he
    simp only [List.mem_cons, List.not_mem_nil, or_false] at he
    rcases he with rfl | rfl | rfl | rfl | rfl | rfl | rfl | rfl | rfl | rfl | rfl | rfl | rfl | rfl | rfl | rfl | rfl | rfl | rfl | rfl | rfl | rfl | rfl | rfl <;> simp only <;> omega
  obtain ⟨tg, htg⟩ : ∃ tg : List (Nat × Nat), [(p, 1), (g, 2), (sa.s, 3), (sa.y, 3), (sa.sp, 3), (sa.sb, 3), (sa.cp, 3), (sa.cb, 3), (sa.cc, 3), (q, 4), (ql, 4), (ta.t, 5), (ta.tb, 5), (ta.ty, 5), (x0, 6), (y0, 6), (x1, 7), (y1, 7), (wi, 8), (sk, 8), (sb, 8), (bx, 9), (bb, 9), (bt, 9)] = tg := ⟨_, rfl⟩
  have hfst : tg.map Prod.fst = l.map Prod.fst := by rw [← htg, ← hl]; rfl
  have hty : ∀ k ∈ tg.map Prod.fst, ∀ T cs, Blk w k T cs → T ∈ polTypes := by
    intro k hk T cs hT
    rw [hfst] at hk
    obtain ⟨e, he, rfl⟩ := List.mem_map.1 hk
    obtain ⟨cs', hcs⟩ := hblk e he
    rw [blk_ty hT hcs]
    have h2 : l.map Prod.snd = polTypes := by rw [← hl]; rfl
    rw [← h2]
    exact List.mem_map.2 ⟨e, he, rfl⟩
  rw [← hfst] at hnd hBl
  have hf : ∀ k v, (k, v) ∈ tg → (tg.lookup k).getD 0 = v := fun k v hkv => lookup_mem hnd hkv
  have hfx : ∀ k v, (k, v) ∈ [(p, 1), (g, 2), (sa.s, 3), (sa.y, 3), (sa.sp, 3), (sa.sb, 3), (sa.cp, 3), (sa.cb, 3), (sa.cc, 3), (q, 4), (ql, 4), (ta.t, 5), (ta.tb, 5), (ta.ty, 5), (x0, 6), (y0, 6), (x1, 7), (y1, 7), (wi, 8), (sk, 8), (sb, 8), (bx, 9), (bb, 9), (bt, 9)] → (tg.lookup k).getD 0 = v := by rw [htg]; exact hf
  refine ⟨⟨p, g, sa, q, ql, ta, x0, y0, x1, y1, wi, sk, sb, bx, bb, bt⟩, fun k => (tg.lookup k).getD 0, rfl, ?_, fun k hkk => ⟨(hBl k (lookup_in hkk)).1, fun T cs hT => hty k (lookup_in hkk) T cs hT⟩⟩
  refine ⟨?_, h4, ?_, ?_, ?_, hB0, hB1, ?_, ?_, ⟨?_, ?_, ?_, ?_, ?_, ?_, ?_, ?_, ?_, fun e he => by cases he⟩, fun k hkk => (hBl k (lookup_in hkk)).2⟩
  · rw [← es, ← et] at h2; exact h2
  · show StoreW w sa (List.replicate (2 * c.getD 0 0 + 1).toNat []) (c.getD 1 0).toNat
    rw [ek, em']; exact hS
  · show QuotaW w q ql _ _ (List.replicate (2 * c.getD 0 0 + 1).toNat 0)
    rw [ek]; exact hQ
  · show TurnsW w ta _ (List.replicate (2 * c.getD 0 0 + 1).toNat _) []
    rw [ek]; exact hT
  · show WinW w wi sk sb (c.getD 6 0).toNat _ _ _ _ _
    rw [ec']; exact hW
  · show BoxW w bx bb bt (c.getD 7 0).toNat _ _ _ _
    rw [er']; exact hX
  · exact hfx _ _ (by simp)
  · exact hfx _ _ (by simp)
  · rintro k (rfl | rfl | rfl | (rfl | rfl) | (rfl | rfl)) <;> exact hfx _ _ (by simp)
  · rintro k (rfl | rfl) <;> exact hfx _ _ (by simp)
  · rintro k (rfl | rfl | rfl) <;> exact hfx _ _ (by simp)
  · rintro k (rfl | rfl) <;> exact hfx _ _ (by simp)
  · rintro k (rfl | rfl) <;> exact hfx _ _ (by simp)
  · rintro k (rfl | rfl | rfl) <;> exact hfx _ _ (by simp)
  · rintro k (rfl | rfl | rfl) <;> exact hfx _ _ (by simp)
theorem PolZ.mem {w : World} {B p : Nat} {c : List Int} {key : List UInt8} (h : PolZ w B p c key) (hc : c.length = 20) (hk : key.length = 16) (hr : rightM c) : ∃ a f, a.p = p ∧ PolMem w a f (polR0 c key) ∧ ∀ k, own f k → B ≤ k := by
  obtain ⟨a, f, h1, h2, h3⟩ := h.memT hc hk hr
  exact ⟨a, f, h1, h2, fun k hk => (h3 k hk).1⟩
end Go.Proofs.YtofhbonnojooeaaGreat

