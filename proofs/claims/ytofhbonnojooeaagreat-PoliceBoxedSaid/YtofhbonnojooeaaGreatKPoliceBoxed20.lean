/-
  Texts that the law stands on, part 20.
-/
import Derived.Test.YtofhbonnojooeaaGreatKPoliceBoxed19
namespace Go.Proofs.YtofhbonnojooeaaGreat
open Go Go.RowKit Go.Proofs.RV
set_option linter.unusedSimpArgs false
set_option linter.unusedVariables false
set_option maxRecDepth 10000
set_option maxHeartbeats 4000000
def PolR.inC (r : PolR) (class_ : Nat) : Prop := class_ = r.pen ∨ (class_ < r.pen ∧ r.g.live (class_ / r.B : Nat))
theorem div_two {B class_ : Nat} (hB : 1 ≤ B) (h : class_ < 2 * B) : class_ / B < 2 := by
  rw [Nat.div_lt_iff_lt_mul (by omega)]
  omega
theorem PolMem.own_st {w : World} {a : PolA} {f : Nat → Nat} {r : PolR} (h : PolMem w a f r) {w' : World} (hm : Mod a.st.own w w') : Mod (own f) w w' := hm.mono fun k _ hk => by show f k ≠ 0; rw [h.tag.st k (.inr (.inr hk))]; decide
theorem PolMem.own_qu {w : World} {a : PolA} {f : Nat → Nat} {r : PolR} (h : PolMem w a f r) {w' : World} (hm : Mod (duo a.q a.ql) w w') : Mod (own f) w w' := hm.mono fun k _ hk => by show f k ≠ 0; rw [h.tag.qu k hk]; decide
theorem PolMem.own_tu {w : World} {a : PolA} {f : Nat → Nat} {r : PolR} (h : PolMem w a f r) {w' : World} (hm : Mod a.tu.own w w') : Mod (own f) w w' := hm.mono fun k _ hk => by show f k ≠ 0; rw [h.tag.tu k hk]; decide
theorem PolMem.own_wi {w : World} {a : PolA} {f : Nat → Nat} {r : PolR} (h : PolMem w a f r) {w' : World} (hm : Mod (trio a.wi a.sk a.sb) w w') : Mod (own f) w w' := hm.mono fun k _ hk => by show f k ≠ 0; rw [h.tag.wi k hk]; decide
theorem PolMem.own_p {w : World} {a : PolA} {f : Nat → Nat} {r : PolR} (h : PolMem w a f r) {w' : World} (hm : But a.p w w') : Mod (own f) w w' := hm.mono fun k _ hk => by show f k ≠ 0; rw [show k = a.p from hk, h.tag.p]; decide
theorem PolMem.new_free {w : World} {a : PolA} {f : Nat → Nat} {r : PolR} (h : PolMem w a f r) {k : Nat} (hk : w.heap.size ≤ k) : ¬ own f k := fun hh => by have := h.lim k hh; omega
theorem police_count (w : World) (a : PolA) (f : Nat → Nat) (r : PolR) (h : PolMem w a f r) (ho : PolOk r) (class_ : Nat) (hc : r.inC class_) (x : PackM) (hx : x.Ok) (put : Bool) :
    Ret Tryz.prog 150 #[.pointer (some ⟨a.p, 0, none⟩), .int .i64 class_, .agg x.cells.toArray, .bool put] w fun v w' => v = .tuple #[] ∧ PolMem w' a f (r.count class_ x.flow (if put = true then putF x.len else takeF x.len)) ∧ Mod (own f) w w' := by
  refine ret_of Tryz.func150 rfl (by kernel_rfl) (Nat.le_of_ble_eq_true (by kernel_rfl)) ?_
  have hm1 := more_alloc w (.cells x.cells.toArray 39)
  have hb1 := Blk.new w 39 x.cells.toArray
  simp -implicitDefEqProofs (maxSteps := 1000000) only [↓zvN, zvU, ↓zvE, zvM, init, one, Value.cells, simprocAttr, tyF]
  obtain ⟨w1, hw1⟩ : ∃ w1, w.alloc (.cells x.cells.toArray 39) = w1 := ⟨_, rfl⟩
  rw [hw1] at hm1 hb1 ⊢
  clear hw1
  rw [List.toList_toArray] at hb1
  obtain ⟨z, hz⟩ : ∃ z, w.heap.size = z := ⟨_, rfl⟩
  have hzo : ∀ k, f k ≠ 0 → k < z := fun k hk => by rw [← hz]; exact h.lim k hk
  rw [hz] at hb1 ⊢
  have h1 := h.more hm1
  have hB := ho.B1
  have hBc := ho.Bc
  refine call_ok Tryz.call57 (police_penalty w1 a f r h1 ho) ?_
  rintro _ w2 ⟨rfl, rfl⟩
  by_cases hpen : class_ = r.pen
  · have e1 : (class_ : Int) = (r.pen : Int) := by rw [hpen]
    have e2 : r.count class_ x.flow (if put = true then putF x.len else takeF x.len) = r := by unfold PolR.count; rw [if_pos hpen]
    rw [e2]
    simp -implicitDefEqProofs (maxSteps := 1000000) only [↓zvN, zvU, ↓zvE, zvM, init, one, Value.cells, simprocAttr, tyF, e1]
    exact ⟨rfl, h1, Mod.of_more hm1⟩
  obtain ⟨hlt, hlive⟩ := hc.resolve_left hpen
  have ne1 : ¬ (class_ : Int) = (r.pen : Int) := by omega
  have hg2 := div_two hB.1 hlt
  have hgl : class_ ≤ 128 := by unfold PolR.pen at hlt; omega
  have e2 : r.count class_ x.flow (if put = true then putF x.len else takeF x.len) = r.bump (class_ / r.B) (r.bins (class_ / r.B) x.flow) (if put = true then putF x.len else takeF x.len) := by unfold PolR.count; rw [if_neg hpen]
  rw [e2]
  obtain ⟨gen, hgen⟩ : ∃ gen, class_ / r.B = gen := ⟨_, rfl⟩
  rw [hgen] at hlive hg2 ⊢
  have nz : ¬ r.c.getD 0 0 = 0 := by have := ho.b; omega
  have eq1 : IntKind.i64.wrap (Int.tdiv (class_ : Int) (r.c.getD 0 0)) = (gen : Int) := by
    rw [← hBc, Int.tdiv_eq_ediv_of_nonneg (by omega), ← Int.natCast_ediv, hgen]
    exact w64 (by omega) (by omega)
  simp -implicitDefEqProofs (maxSteps := 1000000) only [↓zvN, zvU, ↓zvE, zvM, init, one, Value.cells, simprocAttr, tyF, ne1, h1.cfg ho.cl (k := 0) (by decide), nz, eq1]
  have g0 : (0 : Int) ≤ (gen : Int) := by omega
  have g1 : (gen : Int) < 2 := by omega
  have lp := h1.pol.lt
  have lz := hb1.lt
  have lf := pack_flowAt hx.1 hx.2.1 hb1
  have c45 : w2.cell? ⟨z, 45, none⟩ = some (.int .i64 x.len) := by rw [hb1.cell]; exact pack_lenAt hx.1 hx.2.1
  refine draw_seen 11 [[], [], [0], [0, 2], [0, 1, 2, 3], [0, 1, 2, 3, 4], [], [], [], [8], [6, 7, 8, 9], [0, 1, 2, 3, 4, 5, 6, 7, 8, 9, 10], [0, 1, 2, 3, 4, 5, 6, 7, 8, 9, 10, 11]] (RV.look [(10, IntsF w2.heap.size (r.bins gen x.flow))]) mixed (by kernel_rfl) (by kernel_rfl) (look_keeps _ (by
    intro y hy
    simp only [List.mem_cons, List.not_mem_nil, or_false] at hy
    rcases hy with rfl
    exact keepsI _ _)) ?_
  simp -implicitDefEqProofs (maxSteps := 1000000) only [↓zvN, zvU, ↓zqD, ↓zvE, zvM, init, one, Value.cells, simprocAttr, tyF, h1.cx ho.cl hg2, lf, lz, lp, g0, g1, Int.toNat_natCast]
  refine ⟨fun w3 hm3 => ?_, ?_⟩
  · refine call_ok Tryz.call64 (police_bins w3 a f r (h1.more hm3) ho gen hlive x.flow hx.1) ?_
    rintro _ w4 ⟨hI, hm4⟩
    obtain ⟨A, c, rfl, hA, hAg⟩ := hI
    simp -implicitDefEqProofs (maxSteps := 1000000) only [↓zvN, zvU, ↓zqD, ↓zvE, zvM, init, one, Value.cells, simprocAttr, tyF]
    exact ⟨hm4, A, c, rfl, hA, fun y hy => by have := hAg y hy; have := hm3.size; omega⟩
  rintro _ ⟨w3, hm3, A, c, rfl, hA, hAg⟩
  simp -implicitDefEqProofs (maxSteps := 1000000) only [↓zvN, zvU, ↓zqD, ↓zvE, zvM, init, one, Value.cells, simprocAttr, tyF, h1.cx ho.cl hg2, lf, lz, lp, g0, g1, Int.toNat_natCast]
  intro w4 hm4 hI
  obtain ⟨A', c', e, hA4, hAg4⟩ := hI
  cases e
  have h4 := h1.more hm4
  have c45' : w4.cell? ⟨z, 45, none⟩ = some (.int .i64 x.len) := by rw [(hb1.more hm4).cell]; exact pack_lenAt hx.1 hx.2.1
  have hbk := binsM_ok r ho (r.g.key gen) x.flow
  have hbl := h4.bl hg2
  have hAy : ∀ y, A = some y → y.block ≠ a.y gen := fun y hy e => by
    have h5 := hAg4 y hy
    have h6 := hbl.row.lt
    have h7 : f (a.y gen) ≠ 0 := by
      unfold PolA.y
      split
      · rw [h4.tag.b0 _ (.inr rfl)]; decide
      · rw [h4.tag.b1 _ (.inr rfl)]; decide
    have := h1.lim _ h7
    omega
  have hn : 0 ≤ x.len ∧ x.len ≤ 1073741824 := by have := hx.2.2; omega
  have m04 : Mod (own f) w w4 := Mod.of_more (hm1.trans hm4)
  cases put with
  | true =>
    try simp -implicitDefEqProofs (maxSteps := 1000000) only [↓zvN, zvU, ↓zvE, zvM, init, one, Value.cells, simprocAttr, tyF, p_nil, c45']
    refine call_ok Tryz.call85 (blue_put w4 (a.x gen) (a.y gen) (blueK r.c) (r.blue gen) hbl A c (r.bins gen x.flow) hA4 hAy hbk x.len hn) ?_
    rintro _ w5 ⟨rfl, hB5, hm5⟩
    obtain ⟨k1, k2⟩ := h4.setB hg2 hm5 hB5
    simp -implicitDefEqProofs (maxSteps := 1000000) only [↓zvN, zvU, ↓zvE, zvM, init, one, Value.cells, simprocAttr, tyF]
    exact ⟨rfl, k1, m04.trans k2⟩
  | false =>
    try simp -implicitDefEqProofs (maxSteps := 1000000) only [↓zvN, zvU, ↓zvE, zvM, init, one, Value.cells, simprocAttr, tyF, p_nil, c45']
    refine call_ok Tryz.call81 (blue_take w4 (a.x gen) (a.y gen) (blueK r.c) (r.blue gen) hbl A c (r.bins gen x.flow) hA4 hAy hbk x.len hn) ?_
    rintro _ w5 ⟨rfl, hB5, hm5⟩
    obtain ⟨k1, k2⟩ := h4.setB hg2 hm5 hB5
    simp -implicitDefEqProofs (maxSteps := 1000000) only [↓zvN, zvU, ↓zvE, zvM, init, one, Value.cells, simprocAttr, tyF]
    exact ⟨rfl, k1, m04.trans k2⟩
def PolR.sleep (r : PolR) (class_ : Nat) : PolR := { r with tl := r.tl.set class_ ⟨false, false, 0⟩, line := r.line.erase class_ }
def PolR.leave (r : PolR) (class_ : Nat) (cl : List PackM) (k : Nat) (pk : PackM) : PolR :=
  if cl.eraseIdx k = [] then (({ r with cls := r.cls.set class_ (cl.eraseIdx k), qs := r.qs.set class_ (r.qs.getD class_ 0 - pk.len) } : PolR).count class_ pk.flow (takeF pk.len)).sleep class_
  else ({ r with cls := r.cls.set class_ (cl.eraseIdx k), qs := r.qs.set class_ (r.qs.getD class_ 0 - pk.len) } : PolR).count class_ pk.flow (takeF pk.len)
theorem police_leave (w : World) (a : PolA) (f : Nat → Nat) (r : PolR) (h : PolMem w a f r) (ho : PolOk r) (class_ k : Nat) {cl : List PackM} {pk : PackM} (hcl : r.cls[class_]? = some cl) (hk : cl[k]? = some pk) (hin : r.inC class_) {y : Int} (hq : r.qs[class_]? = some y) (hy : pk.len ≤ y) {t : TurnM} (ht : r.tl[class_]? = some t) (ha : t.awake = true) :
    Ret Tryz.prog 62 #[.pointer (some ⟨a.p, 0, none⟩), .int .i64 class_, .int .i64 k] w fun v w' => v = .tuple #[.agg pk.cells.toArray, .bool true] ∧ PolMem w' a f (r.leave class_ cl k pk) ∧ Mod (own f) w w' := by
  refine ret_of Tryz.func62 rfl (by kernel_rfl) (Nat.le_of_ble_eq_true (by kernel_rfl)) ?_
  have hok : pk.Ok := by
    obtain ⟨paths, fl, ls, ks, ps, first, free, h1, h2, h3⟩ := h.st.ex
    exact h1.fit cl (List.mem_of_getElem? hcl) pk (List.mem_of_getElem? hk)
  have hm1 := more_alloc w (.cells packZ.cells.toArray 39)
  have hb1 := Blk.new w 39 packZ.cells.toArray
  simp -implicitDefEqProofs (maxSteps := 1000000) only [↓zvN, zvU, ↓zvE, zvM, init, one, Value.cells, simprocAttr, tyF, zerPack]
  obtain ⟨w1, hw1⟩ : ∃ w1, w.alloc (.cells packZ.cells.toArray 39) = w1 := ⟨_, rfl⟩
  rw [hw1] at hm1 hb1 ⊢
  clear hw1
  rw [List.toList_toArray] at hb1
  obtain ⟨u, hu⟩ : ∃ u, w.heap.size = u := ⟨_, rfl⟩
  have hfu : ¬ own f u := h.new_free (by omega)
  rw [hu] at hb1 ⊢
  have h1 := h.more hm1
  try simp -implicitDefEqProofs (maxSteps := 1000000) only [↓zvN, zvU, ↓zvE, zvM, init, one, Value.cells, simprocAttr, tyF, h1.cs ho.cl]
  refine call_ok Tryz.call148 (store_cut w1 a.st r.cls r.m h1.st hcl hk) ?_
  rintro _ w2 ⟨rfl, hS2, hm2⟩
  have h2 := h1.setSt hm2 hS2
  have m02 : Mod (own f) w w2 := (Mod.of_more hm1).trans (h1.own_st hm2)
  have b2 := (h1.own_st hm2).blk hb1 hfu
  simp -implicitDefEqProofs (maxSteps := 1000000) only [↓zvN, zvU, ↓zvE, zvM, init, one, Value.cells, simprocAttr, tyF, zerPack]
  refine pack_var2 hok.1 hok.2.1 fun w3 hm3 hb3 _ => ?_
  rw [s2_undef]
  obtain ⟨v, hv⟩ : ∃ v, w2.heap.size = v := ⟨_, rfl⟩
  have hfv : ¬ own f v := h2.new_free (by omega)
  rw [hv] at hb3 ⊢
  have h3 := h2.more hm3
  have b33 := b2.more hm3
  have ho1 : PolOk { r with cls := r.cls.set class_ (cl.eraseIdx k) } := ⟨ho.cl, ho.rt, ho.gok, ho.gb, ho.k0, ho.k1⟩
  have c45 : w3.cell? ⟨v, 45, none⟩ = some (.int .i64 pk.len) := by rw [hb3.cell]; exact pack_lenAt hok.1 hok.2.1
  have lp := h3.pol.lt
  have lv := hb3.lt
  simp -implicitDefEqProofs (maxSteps := 1000000) only [↓zvN, zvU, ↓zvE, zvM, init, one, Value.cells, simprocAttr, tyF]
  refine draw_seen 7 [[], [0], [0, 1], [0, 1, 2], [], [], [5], [0, 1, 2, 3, 4, 5, 6]] (RV.look []) mixed (by kernel_rfl) (by kernel_rfl) (look_keeps _ (by simp)) ?_
  simp -implicitDefEqProofs (maxSteps := 1000000) only [↓zvN, zvU, ↓zqD, ↓zvE, zvM, init, one, Value.cells, simprocAttr, tyF, h3.cq ho1.cl, c45, lp, lv]
  intro w4 hm4
  have h4 := h3.more hm4
  try simp -implicitDefEqProofs (maxSteps := 1000000) only [↓zvN, zvU, ↓zvE, zvM, init, one, Value.cells, simprocAttr, tyF, p_nil]
  refine call_ok Tryz.call149 (quota_sub w4 a.q a.ql _ _ r.qs h4.qu hq (n := pk.len) (by have := hok.2.2; omega)) ?_
  rintro _ w5 ⟨rfl, hQ5, hm5⟩
  have h5 := h4.setQu hm5 hQ5
  have m45 := h4.own_qu hm5
  have m05 : Mod (own f) w w5 := ((m02.trans (Mod.of_more hm3)).trans (Mod.of_more hm4)).trans m45
  have b5u := m45.blk (b33.more hm4) hfu
  have b5v := m45.blk (hb3.more hm4) hfv
  have hqg : r.qs.getD class_ 0 = y := by rw [List.getD_eq_getElem?_getD, hq]; rfl
  have ho2 : PolOk { r with cls := r.cls.set class_ (cl.eraseIdx k), qs := r.qs.set class_ (y - pk.len) } := ⟨ho.cl, ho.rt, ho.gok, ho.gb, ho.k0, ho.k1⟩
  simp -implicitDefEqProofs (maxSteps := 1000000) only [↓zvN, zvU, ↓zvE, zvM, init, one, Value.cells, simprocAttr, tyF, b5v.all_eq 46 (pack_len hok.1 hok.2.1)]
  refine call_ok Tryz.call150 (police_count w5 a f _ h5 ho2 class_ hin pk hok false) ?_
  rintro _ w6 ⟨rfl, h6, m6⟩
  have b6u := m6.blk b5u hfu
  have b6v := m6.blk b5v hfv
  unfold PolR.leave
  rw [hqg]
  obtain ⟨r6, hr6⟩ : ∃ r6, ({ r with cls := r.cls.set class_ (cl.eraseIdx k), qs := r.qs.set class_ (y - pk.len) } : PolR).count class_ pk.flow (takeF pk.len) = r6 := ⟨_, rfl⟩
  have ho6 : PolOk r6 := by rw [← hr6]; exact ho2.count (takeF_ok _)
  have hc6 : r6.cls = r.cls.set class_ (cl.eraseIdx k) := by rw [← hr6]; simp
  have ht6 : r6.tl = r.tl := by rw [← hr6]; simp
  have hl6 : r6.line = r.line := by rw [← hr6]; simp
  have hcf6 : r6.c = r.c := by rw [← hr6]; simp
  simp only [Bool.false_eq_true, if_false] at h6
  rw [hr6] at h6 ⊢
  clear hr6
  have hcl6 : r6.cls[class_]? = some (cl.eraseIdx k) := by rw [hc6]; exact List.getElem?_set_self (List.getElem?_eq_some_iff.1 hcl).1
  simp -implicitDefEqProofs (maxSteps := 1000000) only [↓zvN, zvU, ↓zvE, zvM, init, one, Value.cells, simprocAttr, tyF, h6.cs ho6.cl]
  refine call_ok Tryz.call66 (store_len w6 a.st r6.cls r6.m h6.st hcl6) ?_
  rintro _ w7 ⟨rfl, rfl⟩
  have m06 := m05.trans m6
  have lv6 := b6v.all_eq 46 (pack_len hok.1 hok.2.1)
  by_cases hemp : cl.eraseIdx k = []
  · have e0 : ((cl.eraseIdx k).length : Int) = 0 := by rw [hemp]; rfl
    rw [if_pos hemp]
    simp -implicitDefEqProofs (maxSteps := 1000000) only [↓zvN, zvU, ↓zvE, zvM, init, one, Value.cells, simprocAttr, tyF, e0, h6.ct ho6.cl]
    refine call_ok Tryz.call87 (turns_sleep w7 a.tu _ r6.tl r6.line h6.tu (by rw [ht6]; exact ht) ha) ?_
    rintro _ w8 ⟨rfl, hT8, hm8⟩
    have h8 := h6.setTu hm8 hT8
    have m68 := h6.own_tu hm8
    have b8u := m68.blk b6u hfu
    have b8v := m68.blk b6v hfv
    simp -implicitDefEqProofs (maxSteps := 1000000) only [↓zvN, zvU, ↓zvE, zvM, init, one, Value.cells, simprocAttr, tyF, b8v.all_eq 46 (pack_len hok.1 hok.2.1)]
    refine st_all b8u (by rw [List.size_toArray]; exact pack_len hok.1 hok.2.1) (pack_len packZ_fit.1 packZ_fit.2) (by rw [List.toList_toArray]; exact PackM.one _) fun w9 i9 k9 => ?_
    rw [s2_undef]
    rw [List.toList_toArray] at k9
    simp -implicitDefEqProofs (maxSteps := 1000000) only [↓zvN, zvU, ↓zvE, zvM, init, one, Value.cells, simprocAttr, tyF, k9.all_eq 46 (pack_len hok.1 hok.2.1)]
    exact ⟨rfl, h8.keep (S := fun k => k = u) (Mod.of_wr i9 rfl) (fun k hk => by subst hk; exact Classical.byContradiction hfu), (m06.trans m68).next (Mod.of_wr (S := fun k => k = u) i9 rfl) (fun k hk e => by omega)⟩
  · have e0 : ¬ ((cl.eraseIdx k).length : Int) = 0 := fun e => hemp (List.eq_nil_of_length_eq_zero (by omega))
    rw [if_neg hemp]
    simp -implicitDefEqProofs (maxSteps := 1000000) only [↓zvN, zvU, ↓zvE, zvM, init, one, Value.cells, simprocAttr, tyF, e0, lv6]
    refine st_all b6u (by rw [List.size_toArray]; exact pack_len hok.1 hok.2.1) (pack_len packZ_fit.1 packZ_fit.2) (by rw [List.toList_toArray]; exact PackM.one _) fun w9 i9 k9 => ?_
    rw [s2_undef]
    rw [List.toList_toArray] at k9
    simp -implicitDefEqProofs (maxSteps := 1000000) only [↓zvN, zvU, ↓zvE, zvM, init, one, Value.cells, simprocAttr, tyF, k9.all_eq 46 (pack_len hok.1 hok.2.1)]
    exact ⟨rfl, h6.keep (S := fun k => k = u) (Mod.of_wr i9 rfl) (fun k hk => by subst hk; exact Classical.byContradiction hfu), m06.next (Mod.of_wr (S := fun k => k = u) i9 rfl) (fun k hk e => by omega)⟩
def PolR.wake (r : PolR) (class_ : Nat) : PolR := if (r.tl.getD class_ ⟨false, false, 0⟩).awake = true then r else { r with tl := r.tl.set class_ ⟨true, true, 0⟩, line := r.line ++ [class_] }
def PolR.joinNo (r : PolR) (class_ : Nat) (x : PackM) : Int := if fitsM (r.c.getD 9 0) (r.c.getD 10 0) r.qs (r.qs.getD class_ 0) x.len = true then (if cntM r.cls = r.m then 14 else 0) else 13
def PolR.join (r : PolR) (class_ : Nat) (x : PackM) : PolR :=
  if r.joinNo class_ x = 0 then (({ r with cls := r.cls.set class_ (r.cls.getD class_ [] ++ [x]), qs := r.qs.set class_ (r.qs.getD class_ 0 + x.len) } : PolR).count class_ x.flow (putF x.len)).wake class_ else r
theorem police_wake (w : World) (a : PolA) (f : Nat → Nat) (r : PolR) (h : PolMem w a f r) (class_ : Nat) {t : TurnM} (ht : r.tl[class_]? = some t) :
    Ret Tryz.prog 86 #[.pointer (some ⟨a.tu.t, 0, none⟩), .int .i64 class_] w fun v w' => (∃ b, v = .bool b) ∧ PolMem w' a f (r.wake class_) ∧ Mod (own f) w w' := by
  have hg : r.tl.getD class_ ⟨false, false, 0⟩ = t := by rw [List.getD_eq_getElem?_getD, ht]; rfl
  cases ha : t.awake with
  | true =>
    refine Calls.mono (turns_wake_no w a.tu _ r.tl r.line h.tu ht ha) ?_
    rintro e w' ⟨v, rfl, rfl, rfl⟩
    have e1 : r.wake class_ = r := by unfold PolR.wake; rw [hg, if_pos ha]
    exact ⟨_, rfl, ⟨_, rfl⟩, by rw [e1]; exact h, Mod.refl _ _⟩
  | false =>
    refine Calls.mono (turns_wake w a.tu _ r.tl r.line h.tu ht ha) ?_
    rintro e w' ⟨v, rfl, rfl, hT, hm⟩
    have e1 : r.wake class_ = { r with tl := r.tl.set class_ ⟨true, true, 0⟩, line := r.line ++ [class_] } := by unfold PolR.wake; rw [hg, if_neg (by rw [ha]; decide)]
    exact ⟨_, rfl, ⟨_, rfl⟩, by rw [e1]; exact h.setTu hm hT, h.own_tu hm⟩
theorem PolMem.cnt {w : World} {a : PolA} {f : Nat → Nat} {r : PolR} (h : PolMem w a f r) : cntM r.cls ≤ r.m := by
  obtain ⟨paths, fl, ls, ks, ps, first, free, h1, h2, h3⟩ := h.st.ex
  have := h1.tot
  omega
theorem police_join (w : World) (a : PolA) (f : Nat → Nat) (r : PolR) (h : PolMem w a f r) (ho : PolOk r) (class_ : Nat) (x : PackM) (hx : x.Ok) {cl : List PackM} (hcl : r.cls[class_]? = some cl) (hin : r.inC class_) {y : Int} (hq : r.qs[class_]? = some y) (hy : 0 ≤ y ∧ y ≤ 1000000000) {t : TurnM} (ht : r.tl[class_]? = some t) :
    Ret Tryz.prog 141 #[.pointer (some ⟨a.p, 0, none⟩), .int .i64 class_, .agg x.cells.toArray] w fun v w' => v = .int .i64 (r.joinNo class_ x) ∧ PolMem w' a f (r.join class_ x) ∧ Mod (own f) w w' := by
  refine ret_of Tryz.func141 rfl (by kernel_rfl) (Nat.le_of_ble_eq_true (by kernel_rfl)) ?_
  have hm1 := more_alloc w (.cells x.cells.toArray 39)
  have hb1 := Blk.new w 39 x.cells.toArray
  simp -implicitDefEqProofs (maxSteps := 1000000) only [↓zvN, zvU, ↓zvE, zvM, init, one, Value.cells, simprocAttr, tyF]
  obtain ⟨w1, hw1⟩ : ∃ w1, w.alloc (.cells x.cells.toArray 39) = w1 := ⟨_, rfl⟩
  rw [hw1] at hm1 hb1 ⊢
  clear hw1
  rw [List.toList_toArray] at hb1
  obtain ⟨z, hz⟩ : ∃ z, w.heap.size = z := ⟨_, rfl⟩
  have hfz : ¬ own f z := h.new_free (by omega)
  rw [hz] at hb1 ⊢
  have h1 := h.more hm1
  have c45 : ∀ {w' : World}, Blk w' z 39 x.cells → w'.cell? ⟨z, 45, none⟩ = some (.int .i64 x.len) := fun hb => by rw [hb.cell]; exact pack_lenAt hx.1 hx.2.1
  have hqg : r.qs.getD class_ 0 = y := by rw [List.getD_eq_getElem?_getD, hq]; rfl
  have hcg : r.cls.getD class_ [] = cl := by rw [List.getD_eq_getElem?_getD, hcl]; rfl
  have hcll : class_ < r.cls.length := (List.getElem?_eq_some_iff.1 hcl).1
  have hn : 0 ≤ x.len ∧ x.len ≤ 1073741824 := by have := hx.2.2; omega
  have lp := h1.pol.lt
  have lz := hb1.lt
  unfold PolR.join
  refine draw_seen 7 [[], [0], [0, 1], [0, 1, 2], [], [], [5], [0, 1, 2, 3, 4, 5, 6], [0, 1, 2, 3, 4, 5, 6, 7], [0, 1, 2, 3, 4, 5, 6, 7, 8]] (RV.look []) mixed (by kernel_rfl) (by kernel_rfl) (look_keeps _ (by simp)) ?_
  simp -implicitDefEqProofs (maxSteps := 1000000) only [↓zvN, zvU, ↓zqD, ↓zvE, zvM, init, one, Value.cells, simprocAttr, tyF, h1.cq ho.cl, c45 hb1, lp, lz]
  intro w2 hm2
  have h2 := h1.more hm2
  have b2 := hb1.more hm2
  try simp -implicitDefEqProofs (maxSteps := 1000000) only [↓zvN, zvU, ↓zvE, zvM, init, one, Value.cells, simprocAttr, tyF, p_nil]
  refine call_ok Tryz.call203 (quota_fits w2 a.q a.ql _ _ r.qs h2.qu hq hn) ?_
  rintro _ w3 ⟨rfl, hm3⟩
  have h3 := h2.more hm3
  have b3 := b2.more hm3
  cases hfit : fitsM (r.c.getD 9 0) (r.c.getD 10 0) r.qs y x.len with
  | false =>
    have e1 : r.joinNo class_ x = 13 := by unfold PolR.joinNo; rw [hqg, hfit]; rfl
    rw [e1, if_neg (by decide)]
    simp -implicitDefEqProofs (maxSteps := 1000000) only [↓zvN, zvU, ↓zvE, zvM, init, one, Value.cells, simprocAttr, tyF]
    exact ⟨rfl, h3, Mod.of_more ((hm1.trans hm2).trans hm3)⟩
  | true =>
  have lp3 := h3.pol.lt
  have lz3 := b3.lt
  have m03 : Mod (own f) w w3 := Mod.of_more ((hm1.trans hm2).trans hm3)
  simp -implicitDefEqProofs (maxSteps := 1000000) only [↓zvN, zvU, ↓zvE, zvM, init, one, Value.cells, simprocAttr, tyF]
  refine draw_seen 6 [[], [0], [0, 1], [0, 1, 2], [], [], [0, 1, 2, 3, 4, 5], [0, 1, 2, 3, 4, 5, 6], [0, 1, 2, 3, 4, 5, 6, 7]] (RV.look []) mixed (by kernel_rfl) (by kernel_rfl) (look_keeps _ (by simp)) ?_
  simp -implicitDefEqProofs (maxSteps := 1000000) only [↓zvN, zvU, ↓zqD, ↓zvE, zvM, init, one, Value.cells, simprocAttr, tyF, h3.cs ho.cl, b3.all_eq 46 (pack_len hx.1 hx.2.1), lp3, lz3]
  intro w4 hm4
  have h4 := h3.more hm4
  have b4 := b3.more hm4
  try simp -implicitDefEqProofs (maxSteps := 1000000) only [↓zvN, zvU, ↓zvE, zvM, init, one, Value.cells, simprocAttr, tyF, p_nil]
  have hcnt := h4.cnt
  by_cases hfull : cntM r.cls = r.m
  · have e1 : r.joinNo class_ x = 14 := by unfold PolR.joinNo; rw [hqg, hfit, if_pos hfull]; rfl
    rw [e1, if_neg (by decide)]
    refine call_ok Tryz.call83 (store_push_full w4 a.st r.cls r.m h4.st hcll x hx hfull) ?_
    rintro _ w5 ⟨rfl, hS5, hm5⟩
    simp -implicitDefEqProofs (maxSteps := 1000000) only [↓zvN, zvU, ↓zvE, zvM, init, one, Value.cells, simprocAttr, tyF]
    exact ⟨rfl, h4.more hm5, (m03.trans (Mod.of_more hm4)).trans (Mod.of_more hm5)⟩
  have e1 : r.joinNo class_ x = 0 := by unfold PolR.joinNo; rw [hqg, hfit, if_neg hfull]; rfl
  rw [e1, if_pos rfl, hqg, hcg]
  refine call_ok Tryz.call83 (store_push w4 a.st r.cls r.m h4.st hcl x hx (by omega)) ?_
  rintro _ w5 ⟨rfl, hS5, hm5⟩
  have h5 := h4.setSt hm5 hS5
  have m45 := h4.own_st hm5
  have b5 := m45.blk b4 hfz
  have ho1 : PolOk { r with cls := r.cls.set class_ (cl ++ [x]) } := ⟨ho.cl, ho.rt, ho.gok, ho.gb, ho.k0, ho.k1⟩
  have lp5 := h5.pol.lt
  have lz5 := b5.lt
  simp -implicitDefEqProofs (maxSteps := 1000000) only [↓zvN, zvU, ↓zvE, zvM, init, one, Value.cells, simprocAttr, tyF]
  refine draw_seen 7 [[], [0], [0, 1], [0, 1, 2], [], [], [5], [0, 1, 2, 3, 4, 5, 6]] (RV.look []) mixed (by kernel_rfl) (by kernel_rfl) (look_keeps _ (by simp)) ?_
  simp -implicitDefEqProofs (maxSteps := 1000000) only [↓zvN, zvU, ↓zqD, ↓zvE, zvM, init, one, Value.cells, simprocAttr, tyF, h5.cq ho1.cl, c45 b5, lp5, lz5]
  intro w6 hm6
  have h6 := h5.more hm6
  have b6 := b5.more hm6
  try simp -implicitDefEqProofs (maxSteps := 1000000) only [↓zvN, zvU, ↓zvE, zvM, init, one, Value.cells, simprocAttr, tyF, p_nil]
  refine call_ok Tryz.call204 (quota_add w6 a.q a.ql _ _ r.qs h6.qu hq hn (by have := hx.2.2; omega) hfit) ?_
  rintro _ w7 ⟨rfl, hQ7, hm7⟩
  have h7 := h6.setQu hm7 hQ7
  have m67 := h6.own_qu hm7
  have b7 := m67.blk b6 hfz
  have ho2 : PolOk { r with cls := r.cls.set class_ (cl ++ [x]), qs := r.qs.set class_ (y + x.len) } := ⟨ho.cl, ho.rt, ho.gok, ho.gb, ho.k0, ho.k1⟩
  simp -implicitDefEqProofs (maxSteps := 1000000) only [↓zvN, zvU, ↓zvE, zvM, init, one, Value.cells, simprocAttr, tyF, b7.all_eq 46 (pack_len hx.1 hx.2.1)]
  refine call_ok Tryz.call150 (police_count w7 a f _ h7 ho2 class_ hin x hx true) ?_
  rintro _ w8 ⟨rfl, h8, m8⟩
  simp only [if_true] at h8
  obtain ⟨r8, hr8⟩ : ∃ r8, ({ r with cls := r.cls.set class_ (cl ++ [x]), qs := r.qs.set class_ (y + x.len) } : PolR).count class_ x.flow (putF x.len) = r8 := ⟨_, rfl⟩
  have ho8 : PolOk r8 := by rw [← hr8]; exact ho2.count (putF_ok _)
  have ht8 : r8.tl = r.tl := by rw [← hr8]; simp
  rw [hr8] at h8 ⊢
  clear hr8
  simp -implicitDefEqProofs (maxSteps := 1000000) only [↓zvN, zvU, ↓zvE, zvM, init, one, Value.cells, simprocAttr, tyF, h8.ct ho8.cl]
  refine call_ok Tryz.call86 (police_wake w8 a f r8 h8 class_ (by rw [ht8]; exact ht)) ?_
  rintro _ w9 ⟨⟨b, rfl⟩, h9, m9⟩
  simp -implicitDefEqProofs (maxSteps := 1000000) only [↓zvN, zvU, ↓zvE, zvM, init, one, Value.cells, simprocAttr, tyF]
  exact ⟨rfl, h9, (((((m03.trans (Mod.of_more hm4)).trans m45).trans (Mod.of_more hm6)).trans m67).trans m8).trans m9⟩
theorem PolMem.setBx {w w' : World} {a : PolA} {f : Nat → Nat} {r : PolR} (h : PolMem w a f r) {L' : BoxL} (hm : Mod (owns a.bb a.bt r.L) w w') (hn : BoxW w' a.bx a.bb a.bt r.room (r.c.getD 17 0) (r.c.getD 18 0) (r.c.getD 19 0) L') (hq : ∀ e ∈ L', ∃ e' ∈ r.L, e.2.q = e'.2.q) : PolMem w' a f { r with L := L' } ∧ Mod (own f) w w' := by
  have t := h.tag
  have hS : ∀ k, owns a.bb a.bt r.L k → f k = 9 := by
    rintro k (hk | ⟨e, he, rfl⟩)
    · exact t.bx k (.inr hk)
    · exact t.tk e he
  have hno : ∀ k j, f k = j → j ≠ 9 → ¬ owns a.bb a.bt r.L k := fun k j hk hj hs => hj (by rw [← hk]; exact hS k hs)
  refine ⟨⟨hm.blk h.pol (hno _ 1 t.p (by decide)), hm.blk h.gens (hno _ 2 t.g (by decide)), h.st.mod hm (hno _ 3 (t.st _ (.inl rfl)) (by decide)) (hno _ 3 (t.st _ (.inr (.inl rfl))) (by decide)) (fun k hk => hno _ 3 (t.st _ (.inr (.inr hk))) (by decide)),
    h.qu.mod hm (hno _ 4 (t.qu _ (.inl rfl)) (by decide)) (hno _ 4 (t.qu _ (.inr rfl)) (by decide)), h.tu.mod hm (fun k hk => hno _ 5 (t.tu _ hk) (by decide)), h.b0.mod hm (hno _ 6 (t.b0 _ (.inl rfl)) (by decide)) (hno _ 6 (t.b0 _ (.inr rfl)) (by decide)), h.b1.mod hm (hno _ 7 (t.b1 _ (.inl rfl)) (by decide)) (hno _ 7 (t.b1 _ (.inr rfl)) (by decide)),
    h.wi.mod hm (hno _ 8 (t.wi _ (.inl rfl)) (by decide)) (hno _ 8 (t.wi _ (.inr (.inl rfl))) (by decide)) (hno _ 8 (t.wi _ (.inr (.inr rfl))) (by decide)), hn, ⟨t.p, t.g, t.st, t.qu, t.tu, t.b0, t.b1, t.wi, t.bx, fun e he => ?_⟩, fun k hk => Nat.lt_of_lt_of_le (h.lim k hk) hm.size⟩, hm.mono fun k _ hk => ?_⟩
  · obtain ⟨e', he', hqe⟩ := hq e he
    rw [hqe]
    exact t.tk e' he'
  · show f k ≠ 0
    rw [hS k hk]
    decide
theorem mem_sweepE {now : Int} {L : BoxL} : ∀ e ∈ sweepL now L, ∃ e' ∈ L, e.2.q = e'.2.q := fun e he => ⟨e, (List.mem_filter.1 he).1, rfl⟩
theorem mem_takeE {now m n : Int} {p : PrefM} {L : BoxL} : ∀ e ∈ takeL (sweepL now L) p m n, ∃ e' ∈ L, e.2.q = e'.2.q := fun e he => by
  obtain ⟨d, hd, rfl⟩ := List.mem_map.1 he
  refine ⟨d, (List.mem_filter.1 hd).1, ?_⟩
  split <;> rfl
def PolR.sweep (r : PolR) (now : Int) : PolR := { r with L := sweepL now r.L }
theorem police_in (w : World) (a : PolA) (f : Nat → Nat) (r : PolR) (h : PolMem w a f r) (p : PrefM) (hp : p.addr.length = 7) (now : Int) :
    Ret Tryz.prog 55 #[.pointer (some ⟨a.bx, 0, none⟩), .agg p.cells.toArray, .int .i64 now] w fun v w' => v = .bool (inB now r.L p) ∧ PolMem w' a f (r.sweep now) ∧ Mod (own f) w w' := by
  refine Calls.mono (box_in w a.bx a.bb a.bt r.room _ _ _ r.L p now hp h.bx) ?_
  rintro e w' ⟨v, rfl, rfl, hB, hm⟩
  obtain ⟨k1, k2⟩ := h.setBx (hm.mono fun k _ hk => .inl hk) hB mem_sweepE
  exact ⟨_, rfl, rfl, k1, k2⟩
def PolR.takeT (r : PolR) (x : PackM) (now : Int) : PolR := { r with L := takeL (sweepL now r.L) x.pref (max now 0) x.len }
def PolR.boxed (r : PolR) (x : PackM) (now : Int) : PolR := if canB now x.len r.L x.pref = true then (r.takeT x now).join r.pen x else r.takeT x now
def PolR.boxedNo (r : PolR) (x : PackM) (now : Int) : Int := if canB now x.len r.L x.pref = true then (if (r.takeT x now).joinNo r.pen x = 0 then 0 else 9) else 8
theorem pack_prefAt {w : World} {q : Nat} {p : PackM} (h : p.flow.Fit) (hp : p.pref.addr.length = 7) (hb : Blk w q 39 p.cells) (K : Value → Prop) : ldRow 8 ⟨q, 37, none⟩ w K = K (.agg p.pref.cells.toArray) := by
  have h8 : p.pref.cells.length = 8 := by simp [PrefM.cells, hp]
  rw [hb.row_eq 37 8 (by rw [pack_len h hp]; decide)]
  congr 2
  unfold PackM.cells
  rw [show (37 : Nat) = 36 + 1 from rfl, List.drop_succ_cons, List.drop_append, FlowM.cells_len h, Nat.sub_self, List.drop_zero, List.drop_eq_nil_of_le (by rw [FlowM.cells_len h]; exact Nat.le_refl _), List.nil_append, List.take_append_of_le_length (by omega), List.take_of_length_le (by omega)]
theorem police_boxed (w : World) (a : PolA) (f : Nat → Nat) (r : PolR) (h : PolMem w a f r) (ho : PolOk r) (x : PackM) (hx : x.Ok) (now : Int) (hnow : now ≤ 9223372036854775807) {cl : List PackM} (hcl : r.cls[r.pen]? = some cl) {y : Int} (hq : r.qs[r.pen]? = some y) (hy : 0 ≤ y ∧ y ≤ 1000000000) {t : TurnM} (ht : r.tl[r.pen]? = some t) :
    Ret Tryz.prog 58 #[.pointer (some ⟨a.p, 0, none⟩), .agg x.cells.toArray, .int .i64 now] w fun v w' => v = .int .i64 (r.boxedNo x now) ∧ PolMem w' a f (r.boxed x now) ∧ Mod (own f) w w' := by
  refine ret_of Tryz.func58 rfl (by kernel_rfl) (Nat.le_of_ble_eq_true (by kernel_rfl)) ?_
  have hm1 := more_alloc w (.cells x.cells.toArray 39)
  have hb1 := Blk.new w 39 x.cells.toArray
  simp -implicitDefEqProofs (maxSteps := 1000000) only [↓zvN, zvU, ↓zvE, zvM, init, one, Value.cells, simprocAttr, tyF]
  obtain ⟨w1, hw1⟩ : ∃ w1, w.alloc (.cells x.cells.toArray 39) = w1 := ⟨_, rfl⟩
  rw [hw1] at hm1 hb1 ⊢
  clear hw1
  rw [List.toList_toArray] at hb1
  obtain ⟨z, hz⟩ : ∃ z, w.heap.size = z := ⟨_, rfl⟩
  have hfz : ¬ own f z := h.new_free (by omega)
  rw [hz] at hb1 ⊢
  have h1 := h.more hm1
  have c45 : ∀ {w' : World}, Blk w' z 39 x.cells → w'.cell? ⟨z, 45, none⟩ = some (.int .i64 x.len) := fun hb => by rw [hb.cell]; exact pack_lenAt hx.1 hx.2.1
  have lp := h1.pol.lt
  have lz := hb1.lt
  have hx2 := hx.2.2
  refine draw_seen 9 [[], [0], [0, 1], [0, 1, 2], [], [4], [], [], [7], [0, 1, 2, 3, 4, 5, 6, 7, 8], [0, 1, 2, 3, 4, 5, 6, 7, 8, 9]] (RV.look []) mixed (by kernel_rfl) (by kernel_rfl) (look_keeps _ (by simp)) ?_
  simp -implicitDefEqProofs (maxSteps := 1000000) only [↓zvN, zvU, ↓zqD, ↓zvE, zvM, init, one, Value.cells, simprocAttr, tyF, h1.cbx ho.cl, c45 hb1, pack_prefAt hx.1 hx.2.1 hb1, lp, lz]
  intro w2 hm2
  have h2 := h1.more hm2
  have b2 := hb1.more hm2
  try simp -implicitDefEqProofs (maxSteps := 1000000) only [↓zvN, zvU, ↓zvE, zvM, init, one, Value.cells, simprocAttr, tyF, p_nil]
  refine call_ok Tryz.call140 (box_take w2 a.bx a.bb a.bt r.room _ _ _ r.L x.pref now x.len hx.2.1 h2.bx hnow (by omega)) ?_
  rintro _ w3 ⟨rfl, hB3, hm3⟩
  obtain ⟨h3, m23⟩ := h2.setBx hm3 hB3 mem_takeE
  have b3 := m23.blk b2 hfz
  have m03 : Mod (own f) w w3 := (Mod.of_more (hm1.trans hm2)).trans m23
  have h3' : PolMem w3 a f (r.takeT x now) := h3
  have ho3 : PolOk (r.takeT x now) := ⟨ho.cl, ho.rt, ho.gok, ho.gb, ho.k0, ho.k1⟩
  unfold PolR.boxed PolR.boxedNo
  cases hcan : canB now x.len r.L x.pref with
  | false =>
    rw [if_neg (by decide), if_neg (by decide)]
    simp -implicitDefEqProofs (maxSteps := 1000000) only [↓zvN, zvU, ↓zvE, zvM, init, one, Value.cells, simprocAttr, tyF]
    exact ⟨rfl, h3', m03⟩
  | true =>
    rw [if_pos rfl, if_pos rfl]
    simp -implicitDefEqProofs (maxSteps := 1000000) only [↓zvN, zvU, ↓zvE, zvM, init, one, Value.cells, simprocAttr, tyF]
    have lp3 := h3'.pol.lt
    have lz3 := b3.lt
    refine draw_seen 4 [[], [], [1], [], [0, 1, 2, 3], [0, 1, 2, 3, 4]] (RV.look [(2, IsV (.int .i64 r.pen))]) mixed (by kernel_rfl) (by kernel_rfl) (look_keeps _ (by
      intro y hy
      simp only [List.mem_cons, List.not_mem_nil, or_false] at hy
      rcases hy with rfl
      exact keepsV _)) ?_
    simp -implicitDefEqProofs (maxSteps := 1000000) only [↓zvN, zvU, ↓zqD, ↓zvE, zvM, init, one, Value.cells, simprocAttr, tyF, b3.all_eq 46 (pack_len hx.1 hx.2.1), lp3, lz3]
    refine ⟨fun w4 hm4 => ?_, ?_⟩
    · refine call_ok Tryz.call57 (police_penalty w4 a f _ (h3'.more hm4) ho3) ?_
      rintro _ w5 ⟨rfl, rfl⟩
      simp -implicitDefEqProofs (maxSteps := 1000000) only [↓zvN, zvU, ↓zqD, ↓zvE, zvM, init, one, Value.cells, simprocAttr, tyF]
      exact ⟨More.refl _, rfl⟩
    rintro _ ⟨w4, hm4, rfl⟩
    simp -implicitDefEqProofs (maxSteps := 1000000) only [↓zvN, zvU, ↓zqD, ↓zvE, zvM, init, one, Value.cells, simprocAttr, tyF, b3.all_eq 46 (pack_len hx.1 hx.2.1), lp3, lz3]
    intro w5 hm5 _
    try simp -implicitDefEqProofs (maxSteps := 1000000) only [↓zvN, zvU, ↓zvE, zvM, init, one, Value.cells, simprocAttr, tyF, p_nil]
    refine call_ok Tryz.call141 (police_join w5 a f _ (h3'.more hm5) ho3 r.pen x hx hcl (.inl rfl) hq hy ht) ?_
    rintro _ w6 ⟨rfl, h6, m6⟩
    have m06 := (m03.trans (Mod.of_more hm5)).trans m6
    obtain ⟨no, hno⟩ : ∃ no, (r.takeT x now).joinNo r.pen x = no := ⟨_, rfl⟩
    rw [hno]
    by_cases h0 : no = 0
    · rw [if_pos h0]
      simp -implicitDefEqProofs (maxSteps := 1000000) only [↓zvN, zvU, ↓zvE, zvM, init, one, Value.cells, simprocAttr, tyF, h0]
      exact ⟨rfl, h6, m06⟩
    · rw [if_neg h0]
      simp -implicitDefEqProofs (maxSteps := 1000000) only [↓zvN, zvU, ↓zvE, zvM, init, one, Value.cells, simprocAttr, tyF, h0]
      exact ⟨rfl, h6, m06⟩
def seqsM (cls : Cls) : List Int := cls.flatten.map PackM.seq
structure PolI (r : PolR) : Prop where
  ok : PolOk r
  qs : r.qs = r.cls.map bytesM
  lc : r.cls.length = r.pen + 1
  lt : r.tl.length = r.cls.length
  aw : ∀ (c : Nat) (t : TurnM) (cl : List PackM), r.tl[c]? = some t → r.cls[c]? = some cl → (t.awake = true ↔ cl ≠ [])
  fit : ∀ cl ∈ r.cls, ∀ pk ∈ cl, pk.Ok
  cnt : cntM r.cls ≤ r.m
  m : r.m ≤ 4096
  place : ∀ (c : Nat) (cl : List PackM) (pk : PackM), c < r.pen → r.cls[c]? = some cl → pk ∈ cl → (r.g.whereM pk.flow).2 = c
  nd : (seqsM r.cls).Nodup
  lo : ∀ s ∈ seqsM r.cls, 0 ≤ s ∧ s < r.n
section
variable {r : PolR}
@[simp] theorem PolR.setBlue_pen (r : PolR) (gen : Nat) (bs : List BinM) : (r.setBlue gen bs).pen = r.pen := by unfold PolR.pen PolR.B; simp
@[simp] theorem PolR.bump_pen (r : PolR) (gen : Nat) (xs : List Int) (φ : BinM → BinM) : (r.bump gen xs φ).pen = r.pen := by unfold PolR.pen PolR.B; simp
@[simp] theorem PolR.count_pen (r : PolR) (class_ : Nat) (f : FlowM) (φ : BinM → BinM) : (r.count class_ f φ).pen = r.pen := by unfold PolR.pen PolR.B; simp
theorem PolI.cl_len (h : PolI r) {c : Nat} {cl : List PackM} (hc : r.cls[c]? = some cl) : cl.length ≤ 4096 := by
  have := len_cnt hc
  have := h.cnt
  have := h.m
  omega
theorem PolI.at_q (h : PolI r) {c : Nat} {cl : List PackM} (hc : r.cls[c]? = some cl) : r.qs[c]? = some (bytesM cl) ∧ 0 ≤ bytesM cl ∧ bytesM cl ≤ 1000000000 := by
  have hb := bytes_bound (m := 4096) (fun pk hp => h.fit cl (List.mem_of_getElem? hc) pk hp) (h.cl_len hc)
  refine ⟨by rw [h.qs, List.getElem?_map, hc]; rfl, hb.1, by omega⟩
theorem PolI.at_t (h : PolI r) {c : Nat} {cl : List PackM} (hc : r.cls[c]? = some cl) : ∃ t, r.tl[c]? = some t ∧ (t.awake = true ↔ cl ≠ []) := by
  have hl : c < r.tl.length := by rw [h.lt]; exact (List.getElem?_eq_some_iff.1 hc).1
  exact ⟨_, List.getElem?_eq_getElem hl, h.aw c _ cl (List.getElem?_eq_getElem hl) hc⟩
theorem PolI.at_c (h : PolI r) {c : Nat} (hc : c ≤ r.pen) : ∃ cl, r.cls[c]? = some cl := ⟨_, List.getElem?_eq_getElem (by rw [h.lc]; omega)⟩
theorem bytes_ge {cl : List PackM} {k : Nat} {pk : PackM} (hf : ∀ p ∈ cl, p.Ok) (hk : cl[k]? = some pk) : pk.len ≤ bytesM cl := by
  have h1 := bytes_era hk
  have h2 := bytes_bound (cl := cl.eraseIdx k) (m := cl.length) (fun p hp => hf p (List.mem_of_mem_eraseIdx hp)) (by rw [List.length_eraseIdx]; split <;> omega)
  omega
theorem where_in (ho : PolOk r) (fl : FlowM) : ∃ gen class_ : Nat, r.g.whereM fl = ((gen : Int), (class_ : Int)) ∧ class_ < r.pen ∧ class_ / r.B = gen ∧ r.g.live gen ∧ gen < 2 := by
  have hB := ho.B1
  have hBc := ho.Bc
  have hgb := ho.gb
  have key : ∀ (g : Int), (g = 0 ∨ g = 1) → r.g.live g → ∃ gen class_ : Nat, (g, r.g.classM g fl) = ((gen : Int), (class_ : Int)) ∧ class_ < r.pen ∧ class_ / r.B = gen ∧ r.g.live gen ∧ gen < 2 := by
    intro g hg hl
    have hr := GensM.classM_range ho.gok hg fl
    rw [hgb, ← hBc] at hr
    rcases hg with rfl | rfl
    · obtain ⟨c, hc⟩ := Int.eq_ofNat_of_zero_le (show 0 ≤ r.g.classM 0 fl by omega)
      refine ⟨0, c, by rw [hc]; rfl, by unfold PolR.pen; omega, by rw [Nat.div_eq_of_lt (by omega)], hl, by omega⟩
    · obtain ⟨c, hc⟩ := Int.eq_ofNat_of_zero_le (show 0 ≤ r.g.classM 1 fl by omega)
      refine ⟨1, c, by rw [hc]; rfl, by unfold PolR.pen; omega, ?_, hl, by omega⟩
      exact Nat.div_eq_of_lt_le (k := 1) (by omega) (by omega)
  unfold GensM.whereM
  have hgo := ho.gok.o
  split
  · exact key r.g.old hgo (.inl rfl)
  · rename_i hno
    refine key (1 - r.g.old) (by omega) (.inr ⟨rfl, ?_⟩)
    cases hm : r.g.moving with
    | true => rfl
    | false => exact absurd (.inl hm) hno
theorem flat_sub : ∀ {cls : Cls} {c : Nat} {cl cl' : List PackM}, cls[c]? = some cl → cl'.Sublist cl → (cls.set c cl').flatten.Sublist cls.flatten
  | [], _, _, _, h, _ => by simp at h
  | x :: cls, 0, cl, cl', h, hs => by
    simp at h
    subst h
    rw [List.set_cons_zero, List.flatten_cons, List.flatten_cons]
    exact List.Sublist.append hs (List.Sublist.refl _)
  | x :: cls, c + 1, cl, cl', h, hs => by
    have := flat_sub (cls := cls) (c := c) (by simpa using h) hs
    rw [List.set_cons_succ, List.flatten_cons, List.flatten_cons]
    exact List.Sublist.append (List.Sublist.refl x) this
theorem flat_perm : ∀ {cls : Cls} {c : Nat} {cl : List PackM} {x : PackM}, cls[c]? = some cl → (cls.set c (cl ++ [x])).flatten.Perm (x :: cls.flatten)
  | [], _, _, _, h => by simp at h
  | y :: cls, 0, cl, x, h => by
    simp at h
    subst h
    simp only [List.set_cons_zero, List.flatten_cons, List.append_assoc, List.singleton_append]
    exact List.perm_middle
  | y :: cls, c + 1, cl, x, h => by
    have := flat_perm (cls := cls) (c := c) (x := x) (by simpa using h)
    simp only [List.set_cons_succ, List.flatten_cons]
    exact (this.append_left y).trans List.perm_middle
theorem mem_set_cls {cls : Cls} {c d : Nat} {cl cl' dl : List PackM} (hc : cls[c]? = some cl) (h : (cls.set c cl')[d]? = some dl) : (d = c ∧ dl = cl') ∨ (d ≠ c ∧ cls[d]? = some dl) := by
  by_cases e : c = d
  · subst e
    rw [List.getElem?_set_self (List.getElem?_eq_some_iff.1 hc).1] at h
    exact .inl ⟨rfl, (Option.some.inj h).symm⟩
  · rw [List.getElem?_set_ne e] at h
    exact .inr ⟨fun h => e h.symm, h⟩
theorem leave_f (r : PolR) (class_ : Nat) (cl : List PackM) (k : Nat) (pk : PackM) : (r.leave class_ cl k pk).c = r.c ∧ (r.leave class_ cl k pk).g = r.g ∧ (r.leave class_ cl k pk).cls = r.cls.set class_ (cl.eraseIdx k) ∧ (r.leave class_ cl k pk).m = r.m ∧ (r.leave class_ cl k pk).qs = r.qs.set class_ (r.qs.getD class_ 0 - pk.len) ∧ (r.leave class_ cl k pk).n = r.n ∧ (r.leave class_ cl k pk).L = r.L ∧
    (r.leave class_ cl k pk).tl = (if cl.eraseIdx k = [] then r.tl.set class_ ⟨false, false, 0⟩ else r.tl) ∧ (r.leave class_ cl k pk).line = (if cl.eraseIdx k = [] then r.line.erase class_ else r.line) := by
  unfold PolR.leave
  split <;> simp [PolR.sleep]
theorem PolI.leave (h : PolI r) {class_ k : Nat} {cl : List PackM} {pk : PackM} (hcl : r.cls[class_]? = some cl) (hk : cl[k]? = some pk) : PolI (r.leave class_ cl k pk) := by
  obtain ⟨f1, f2, f3, f4, f5, f6, f7, f8, f9⟩ := leave_f r class_ cl k pk
  have hpen : (r.leave class_ cl k pk).pen = r.pen := by unfold PolR.pen PolR.B; rw [f1]
  have hq := (h.at_q hcl).1
  have hqg : r.qs.getD class_ 0 = bytesM cl := by rw [List.getD_eq_getElem?_getD, hq]; rfl
  refine ⟨?_, ?_, ?_, ?_, ?_, ?_, ?_, ?_, ?_, ?_, ?_⟩
  · have ho1 : PolOk { r with cls := r.cls.set class_ (cl.eraseIdx k), qs := r.qs.set class_ (r.qs.getD class_ 0 - pk.len) } := ⟨h.ok.cl, h.ok.rt, h.ok.gok, h.ok.gb, h.ok.k0, h.ok.k1⟩
    have ho2 := ho1.count (class_ := class_) (f := pk.flow) (takeF_ok pk.len)
    unfold PolR.leave
    split
    · exact ⟨ho2.cl, ho2.rt, ho2.gok, ho2.gb, ho2.k0, ho2.k1⟩
    · exact ho2
  · rw [f5, f3, hqg, h.qs, List.map_set, bytes_era hk]
  · rw [f3, hpen, List.length_set]; exact h.lc
  · rw [f8, f3, List.length_set]
    split
    · rw [List.length_set]; exact h.lt
    · exact h.lt
  · intro c t dl ht hd
    rw [f8] at ht
    rw [f3] at hd
    rcases mem_set_cls hcl hd with ⟨rfl, rfl⟩ | ⟨hne, hd'⟩
    · split at ht
      · rename_i he
        rw [List.getElem?_set_self (by rw [h.lt]; exact (List.getElem?_eq_some_iff.1 hcl).1)] at ht
        cases ht
        simp [he]
      · rename_i he
        have := h.aw c t cl ht hcl
        rw [this]
        constructor
        · exact fun _ => he
        · intro _ e
          rw [e] at hk
          cases hk
    · split at ht
      · rw [List.getElem?_set_ne (fun e => hne e.symm)] at ht
        exact h.aw c t dl ht hd'
      · exact h.aw c t dl ht hd'
  · intro dl hd p hp
    rw [f3] at hd
    rcases List.mem_or_eq_of_mem_set hd with h1 | rfl
    · exact h.fit dl h1 p hp
    · exact h.fit cl (List.mem_of_getElem? hcl) p (List.mem_of_mem_eraseIdx hp)
  · rw [f3, f4]
    have h1 := cnt_set hcl (cl.eraseIdx k)
    have h2 : (cl.eraseIdx k).length ≤ cl.length := by rw [List.length_eraseIdx]; split <;> omega
    have := h.cnt
    omega
  · rw [f4]; exact h.m
  · intro c dl p hc hd hp
    rw [hpen] at hc
    rw [f3] at hd
    rw [f2]
    rcases mem_set_cls hcl hd with ⟨rfl, rfl⟩ | ⟨hne, hd'⟩
    · exact h.place c cl p hc hcl (List.mem_of_mem_eraseIdx hp)
    · exact h.place c dl p hc hd' hp
  · rw [f3]
    exact h.nd.sublist ((flat_sub hcl (List.eraseIdx_sublist _ _)).map _)
  · intro s hs
    rw [f3] at hs
    rw [f6]
    exact h.lo s (((flat_sub hcl (List.eraseIdx_sublist _ _)).map _).subset hs)
theorem wake_f (r : PolR) (class_ : Nat) : (r.wake class_).c = r.c ∧ (r.wake class_).g = r.g ∧ (r.wake class_).cls = r.cls ∧ (r.wake class_).m = r.m ∧ (r.wake class_).qs = r.qs ∧ (r.wake class_).n = r.n ∧ (r.wake class_).L = r.L ∧ (r.wake class_).b0 = r.b0 ∧ (r.wake class_).b1 = r.b1 := by
  unfold PolR.wake
  split <;> exact ⟨rfl, rfl, rfl, rfl, rfl, rfl, rfl, rfl, rfl⟩
theorem wake_tl {r : PolR} {class_ : Nat} {t : TurnM} (ht : r.tl[class_]? = some t) : (r.wake class_).tl = (if t.awake = true then r.tl else r.tl.set class_ ⟨true, true, 0⟩) := by
  have hg : r.tl.getD class_ ⟨false, false, 0⟩ = t := by rw [List.getD_eq_getElem?_getD, ht]; rfl
  unfold PolR.wake
  rw [hg]
  split <;> rfl
def PolR.into (r : PolR) (class_ : Nat) (cl : List PackM) (x : PackM) : PolR := (({ r with cls := r.cls.set class_ (cl ++ [x]), qs := r.qs.set class_ (r.qs.getD class_ 0 + x.len) } : PolR).count class_ x.flow (putF x.len)).wake class_
theorem into_f (r : PolR) (class_ : Nat) (cl : List PackM) (x : PackM) : (r.into class_ cl x).c = r.c ∧ (r.into class_ cl x).g = r.g ∧ (r.into class_ cl x).cls = r.cls.set class_ (cl ++ [x]) ∧ (r.into class_ cl x).m = r.m ∧ (r.into class_ cl x).qs = r.qs.set class_ (r.qs.getD class_ 0 + x.len) ∧ (r.into class_ cl x).n = r.n ∧ (r.into class_ cl x).L = r.L := by
  unfold PolR.into
  obtain ⟨f1, f2, f3, f4, f5, f6, f7, f8, f9⟩ := wake_f (({ r with cls := r.cls.set class_ (cl ++ [x]), qs := r.qs.set class_ (r.qs.getD class_ 0 + x.len) } : PolR).count class_ x.flow (putF x.len)) class_
  refine ⟨by rw [f1]; simp, by rw [f2]; simp, by rw [f3]; simp, by rw [f4]; simp, by rw [f5]; simp, by rw [f6]; simp, by rw [f7]; simp⟩
theorem into_tl {r : PolR} {class_ : Nat} {cl : List PackM} {x : PackM} {t : TurnM} (ht : r.tl[class_]? = some t) : (r.into class_ cl x).tl = (if t.awake = true then r.tl else r.tl.set class_ ⟨true, true, 0⟩) := by
  unfold PolR.into
  rw [wake_tl (t := t) (by simpa using ht)]
  simp
theorem PolI.into (h : PolI r) {class_ : Nat} {cl : List PackM} (hcl : r.cls[class_]? = some cl) {x : PackM} (hx : x.Ok) (hroom : cntM r.cls < r.m) (hpl : class_ < r.pen → (r.g.whereM x.flow).2 = class_) (hs : x.seq ∉ seqsM r.cls) (hn : 0 ≤ x.seq ∧ x.seq < r.n) : PolI (r.into class_ cl x) := by
  obtain ⟨f1, f2, f3, f4, f5, f6, f7⟩ := into_f r class_ cl x
  obtain ⟨t, ht, hta⟩ := h.at_t hcl
  have f8 := into_tl (cl := cl) (x := x) ht
  have hpen : (r.into class_ cl x).pen = r.pen := by unfold PolR.pen PolR.B; rw [f1]
  have hq := (h.at_q hcl).1
  have hqg : r.qs.getD class_ 0 = bytesM cl := by rw [List.getD_eq_getElem?_getD, hq]; rfl
  have hperm := (flat_perm (x := x) hcl).map PackM.seq
  refine ⟨?_, ?_, ?_, ?_, ?_, ?_, ?_, ?_, ?_, ?_, ?_⟩
  · have ho1 : PolOk { r with cls := r.cls.set class_ (cl ++ [x]), qs := r.qs.set class_ (r.qs.getD class_ 0 + x.len) } := ⟨h.ok.cl, h.ok.rt, h.ok.gok, h.ok.gb, h.ok.k0, h.ok.k1⟩
    have ho2 := ho1.count (class_ := class_) (f := x.flow) (putF_ok x.len)
    obtain ⟨g1, g2, g3, g4, g5, g6, g7, g8, g9⟩ := wake_f (({ r with cls := r.cls.set class_ (cl ++ [x]), qs := r.qs.set class_ (r.qs.getD class_ 0 + x.len) } : PolR).count class_ x.flow (putF x.len)) class_
    unfold PolR.into
    exact ⟨by rw [g1]; exact ho2.cl, by rw [g1]; exact ho2.rt, by rw [g2]; exact ho2.gok, by rw [g1, g2]; exact ho2.gb, by rw [g8]; exact ho2.k0, by rw [g9]; exact ho2.k1⟩
  · rw [f5, f3, hqg, h.qs, List.map_set, bytes_app]
  · rw [f3, hpen, List.length_set]; exact h.lc
  · rw [f8, f3, List.length_set]
    split
    · exact h.lt
    · rw [List.length_set]; exact h.lt
  · intro c u dl hu hd
    rw [f8] at hu
    rw [f3] at hd
    rcases mem_set_cls hcl hd with ⟨rfl, rfl⟩ | ⟨hne, hd'⟩
    · split at hu
      · rename_i he
        rw [ht] at hu
        cases hu
        simp [he]
      · rw [List.getElem?_set_self (by rw [h.lt]; exact (List.getElem?_eq_some_iff.1 hcl).1)] at hu
        cases hu
        simp
    · split at hu
      · exact h.aw c u dl hu hd'
      · rw [List.getElem?_set_ne (fun e => hne e.symm)] at hu
        exact h.aw c u dl hu hd'
  · intro dl hd p hp
    rw [f3] at hd
    rcases List.mem_or_eq_of_mem_set hd with h1 | rfl
    · exact h.fit dl h1 p hp
    · rcases List.mem_append.1 hp with h1 | h1
      · exact h.fit cl (List.mem_of_getElem? hcl) p h1
      · rw [List.mem_singleton.1 h1]; exact hx
  · rw [f3, f4]
    have h1 := cnt_set hcl (cl ++ [x])
    rw [List.length_append] at h1
    simp at h1
    omega
  · rw [f4]; exact h.m
  · intro c dl p hc hd hp
    rw [hpen] at hc
    rw [f3] at hd
    rw [f2]
    rcases mem_set_cls hcl hd with ⟨rfl, rfl⟩ | ⟨hne, hd'⟩
    · rcases List.mem_append.1 hp with h1 | h1
      · exact h.place c cl p hc hcl h1
      · rw [List.mem_singleton.1 h1]; exact hpl hc
    · exact h.place c dl p hc hd' hp
  · rw [f3]
    refine (hperm.nodup_iff).2 ?_
    rw [List.map_cons, List.nodup_cons]
    exact ⟨hs, h.nd⟩
  · intro s hs'
    rw [f3] at hs'
    rw [f6]
    have := (hperm.mem_iff).1 hs'
    rw [List.map_cons, List.mem_cons] at this
    rcases this with rfl | h1
    · exact hn
    · exact h.lo s h1
theorem PolI.bump (h : PolI r) (gen : Nat) (xs : List Int) {φ : BinM → BinM} (hφ : ∀ y, y.Ok → (φ y).Ok) : PolI (r.bump gen xs φ) := by
  refine ⟨h.ok.bump hφ, ?_, ?_, ?_, ?_, ?_, ?_, ?_, ?_, ?_, ?_⟩
  · simpa using h.qs
  · simpa using h.lc
  · simpa using h.lt
  · simpa using h.aw
  · simpa using h.fit
  · simpa using h.cnt
  · simpa using h.m
  · simpa using h.place
  · simpa using h.nd
  · simpa using h.lo
theorem join_no (r : PolR) {class_ : Nat} {x : PackM} (h : ¬ r.joinNo class_ x = 0) : r.join class_ x = r := by unfold PolR.join; rw [if_neg h]
theorem join_yes {r : PolR} {class_ : Nat} {x : PackM} {cl : List PackM} (hcl : r.cls[class_]? = some cl) (h : r.joinNo class_ x = 0) : r.join class_ x = r.into class_ cl x := by
  have hcg : r.cls.getD class_ [] = cl := by rw [List.getD_eq_getElem?_getD, hcl]; rfl
  unfold PolR.join PolR.into
  rw [if_pos h, hcg]
theorem join_room {r : PolR} {class_ : Nat} {x : PackM} (h : r.joinNo class_ x = 0) : cntM r.cls ≠ r.m ∧ fitsM (r.c.getD 9 0) (r.c.getD 10 0) r.qs (r.qs.getD class_ 0) x.len = true := by
  unfold PolR.joinNo at h
  split at h
  · rename_i h1
    split at h
    · cases h
    · rename_i h2
      exact ⟨h2, h1⟩
  · cases h
theorem joinNo_cases (r : PolR) (class_ : Nat) (x : PackM) : r.joinNo class_ x = 0 ∨ r.joinNo class_ x = 13 ∨ r.joinNo class_ x = 14 := by
  unfold PolR.joinNo
  split
  · split
    · exact .inr (.inr rfl)
    · exact .inl rfl
  · exact .inr (.inl rfl)
theorem PolI.join (h : PolI r) {class_ : Nat} {cl : List PackM} (hcl : r.cls[class_]? = some cl) {x : PackM} (hx : x.Ok) (hpl : class_ < r.pen → (r.g.whereM x.flow).2 = class_) (hs : x.seq ∉ seqsM r.cls) (hn : 0 ≤ x.seq ∧ x.seq < r.n) : PolI (r.join class_ x) := by
  by_cases h0 : r.joinNo class_ x = 0
  · rw [join_yes hcl h0]
    have := (join_room h0).1
    have := h.cnt
    exact h.into hcl hx (by omega) hpl hs hn
  · rw [join_no r h0]
    exact h
end
end Go.Proofs.YtofhbonnojooeaaGreat

