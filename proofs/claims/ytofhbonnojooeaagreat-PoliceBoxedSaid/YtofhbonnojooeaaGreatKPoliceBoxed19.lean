/-
  Texts that the law stands on, part 19.
-/
import Derived.Test.YtofhbonnojooeaaGreatKPoliceBoxed18
namespace Go.Proofs.YtofhbonnojooeaaGreat
open Go Go.RowKit Go.Proofs.RV
set_option linter.unusedSimpArgs false
set_option linter.unusedVariables false
set_option maxRecDepth 10000
set_option maxHeartbeats 4000000
def inB (now : Int) (L : BoxL) (p : PrefM) : Bool := decide (p ∈ keysM (sweepL now L))
theorem box_in (w : World) (x b t room : Nat) (term rate burst : Int) (L : BoxL) (p : PrefM) (now : Int) (hp : p.addr.length = 7) (hB : BoxW w x b t room term rate burst L) :
    Ret Tryz.prog 55 #[.pointer (some ⟨x, 0, none⟩), .agg p.cells.toArray, .int .i64 now] w fun v w' => v = .bool (inB now L p) ∧ BoxW w' x b t room term rate burst (sweepL now L) ∧ Mod (duoT b t) w w' := by
  refine ret_of Tryz.func55 rfl (by kernel_rfl) (Nat.le_of_ble_eq_true (by kernel_rfl)) ?_
  have hm1 := more_alloc w (.cells p.cells.toArray 37)
  have hb1 := Blk.new w 37 p.cells.toArray
  simp -implicitDefEqProofs (maxSteps := 1000000) only [↓zvN, zvU, ↓zvE, zvM, init, one, Value.cells, simprocAttr, tyF]
  obtain ⟨w1, hw1⟩ : ∃ w1, w.alloc (.cells p.cells.toArray 37) = w1 := ⟨_, rfl⟩
  rw [hw1] at hm1 hb1 ⊢
  clear hw1
  rw [List.toList_toArray] at hb1
  have hpb2 : ¬ duoT b t w.heap.size := by have := hB.tab.lt; rintro (h | h) <;> omega
  obtain ⟨pb, hpb⟩ : ∃ q, w.heap.size = q := ⟨_, rfl⟩
  rw [hpb] at hb1 hpb2 ⊢
  have h8 : p.cells.length = 8 := by simp [PrefM.cells, hp]
  try simp -implicitDefEqProofs (maxSteps := 1000000) only [↓zvN, zvU, ↓zvE, zvM, init, one, Value.cells, simprocAttr, tyF]
  refine call_ok Tryz.call135 (box_sweep w1 x b t room term rate burst L now (hB.more hm1)) ?_
  rintro _ w2 ⟨rfl, hB2, hm2⟩
  have hb2 := hm2.blk hb1 hpb2
  have cx2 := hB2.box.cell 0
  simp only [List.getElem?_cons_zero] at cx2
  have lx2 := hB2.box.lt
  have v2 := hb2.all_eq 8 h8
  have l2 := hb2.lt
  have hsrt := hB2.sorted
  have hmm2 : Mod (duoT b t) w w2 := (Mod.of_more hm1).trans hm2
  unfold inB
  by_cases hin : p ∈ keysM (sweepL now L)
  · obtain ⟨u, hu⟩ := mem_keys.1 hin
    have hget := gets_some hB2 hp (get_some hsrt hu)
    rw [decide_eq_true hin]
    simp -implicitDefEqProofs (maxSteps := 1000000) only [↓zvN, zvU, ↓zvE, zvM, init, one, Value.cells, simprocAttr, tyF]
    refine draw_finH 247 [.int .i64 u.until_, .pointer (some ⟨u.q, 0, none⟩)] 11 [[], [0], [0, 1], [0, 1, 2], [], [0, 1, 2, 3, 4], [0, 1, 2, 3, 4, 5], [0, 1, 2, 3, 4, 5, 6], [0, 1, 2, 3, 4, 5, 6], [], [0, 1, 2, 3, 4, 5, 6, 7, 9], [0, 1, 2, 3, 4, 5, 6, 7, 8, 9, 10]]
      [(5, fun _ v _ => v = .tuple #[.agg #[.int .i64 u.until_, .pointer (some ⟨u.q, 0, none⟩)], .bool true]), (9, fun _ v w' => EntF w2.heap.size v w'), (10, fun g _ w' => ∀ r, g[0]? = some (.pointer (some ⟨r, 0, none⟩)) → Blk w' r 247 [.int .i64 u.until_, .pointer (some ⟨u.q, 0, none⟩)])] mixed (by kernel_rfl) (by kernel_rfl) ?_ ?_
    · intro y hy g v a b hab
      simp only [List.mem_cons, List.not_mem_nil, or_false] at hy
      rcases hy with rfl | rfl | rfl
      · exact fun h => h
      · rintro ⟨r, rfl, h1, h2⟩
        exact ⟨r, rfl, h1, hab.some h2⟩
      · intro h r hr
        exact hab.done (h r hr)
    simp -implicitDefEqProofs (maxSteps := 1000000) only [↓zvN, zvU, ↓zqD, ↓h_cons, ↓hs_guard, ↓hs_none, ↓h_some, ↓hs_nil, ↓lookH_nil, ↓lookH_cons, ↓given_store, ↓zvE, zvM, init, one, Value.cells, simprocAttr, tyF, cx2, lx2, v2, l2]
    refine ⟨fun w5 hf5 => ?_, ?_⟩
    · refine call_ok Tryz.call136 (hget w5 hf5.below) ?_
      rintro _ w6 ⟨rfl, hm6⟩
      simp -implicitDefEqProofs (maxSteps := 1000000) only [↓zvN, zvU, ↓zqD, ↓h_cons, ↓hs_guard, ↓hs_none, ↓h_some, ↓hs_nil, ↓lookH_nil, ↓lookH_cons, ↓given_store, ↓zvE, zvM, init, one, Value.cells, simprocAttr, tyF]
      exact Fin.of_more hm6 hf5.below.size
    rintro _ ⟨w5, hf5, rfl⟩
    simp -implicitDefEqProofs (maxSteps := 1000000) only [↓zvN, zvU, ↓zqD, ↓h_cons, ↓hs_guard, ↓hs_none, ↓h_some, ↓hs_nil, ↓lookH_nil, ↓lookH_cons, ↓given_store, ↓zvE, zvM, init, one, Value.cells, simprocAttr, tyF, zerEntry]
    refine ⟨fun w6 hf6 => ?_, ?_⟩
    · have hle := hf6.below.size
      have hmm := more_alloc w6 (.cells #[.int .i64 0, .pointer none] 247)
      exact ⟨Fin.of_more hmm hle, w6.heap.size, rfl, hle, _, Blk.new .., rfl⟩
    rintro _ ⟨w6, hf6, r, rfl, hr, _⟩
    simp -implicitDefEqProofs (maxSteps := 1000000) only [↓zvN, zvU, ↓zqD, ↓h_cons, ↓hs_guard, ↓hs_none, ↓h_some, ↓hs_nil, ↓lookH_nil, ↓lookH_cons, ↓given_store, ↓zvE, zvM, init, one, Value.cells, simprocAttr, tyF]
    refine ⟨fun w7 hf7 hd7 => ?_, ?_⟩
    · obtain ⟨r', er, _, cs, hcs, hcl⟩ := hd7
      cases er
      refine st_all hcs rfl hcl (by intro u hu; simp at hu; rcases hu with rfl | rfl <;> rfl) fun w8 k1 k2 => ?_
      refine ⟨Fin.of_wr k1 hcs k2 hr, fun r1 h1 => ?_⟩
      cases h1
      exact k2
    rintro _ ⟨w7, hf7, _, _⟩
    rw [stop1]
    simp -implicitDefEqProofs (maxSteps := 1000000) only [↓zvN, zvU, ↓zqD, ↓h_cons, ↓hs_guard, ↓hs_none, ↓h_some, ↓hs_nil, ↓lookH_nil, ↓lookH_cons, ↓given_store, ↓zvE, zvM, init, one, Value.cells, simprocAttr, tyF]
    intro w8 hf8 hd8
    have hb8 : Blk w8 r 247 [.int .i64 u.until_, .pointer (some ⟨u.q, 0, none⟩)] := (by
      first
      | exact hd8 r rfl
      | exact hd8.1 r rfl
      | exact hd8.2 r rfl
      | exact hd8.2.1 r rfl
      | exact hd8.2.2 r rfl)
    have hm8 : More w2 w8 := hf8.below
    try simp -implicitDefEqProofs (maxSteps := 1000000) only [↓zvN, zvU, ↓zvE, zvM, init, one, Value.cells, simprocAttr, tyF, p_nil]
    exact ⟨rfl, hB2.more hm8, hmm2.trans (Mod.of_more hm8)⟩
  · have hget := gets_none hB2 hp (get_none hin)
    rw [decide_eq_false hin]
    simp -implicitDefEqProofs (maxSteps := 1000000) only [↓zvN, zvU, ↓zvE, zvM, init, one, Value.cells, simprocAttr, tyF]
    refine draw_finH 247 [.int .i64 0, .pointer none] 11 [[], [0], [0, 1], [0, 1, 2], [], [0, 1, 2, 3, 4], [0, 1, 2, 3, 4, 5], [0, 1, 2, 3, 4, 5, 6], [0, 1, 2, 3, 4, 5, 6], [], [0, 1, 2, 3, 4, 5, 6, 7, 9], [0, 1, 2, 3, 4, 5, 6, 7, 8, 9, 10]]
      [(5, fun _ v _ => v = .tuple #[.agg #[.int .i64 0, .pointer none], .bool false]), (9, fun _ v w' => EntF w2.heap.size v w'), (10, fun g _ w' => ∀ r, g[0]? = some (.pointer (some ⟨r, 0, none⟩)) → Blk w' r 247 [.int .i64 0, .pointer none])] mixed (by kernel_rfl) (by kernel_rfl) ?_ ?_
    · intro y hy g v a b hab
      simp only [List.mem_cons, List.not_mem_nil, or_false] at hy
      rcases hy with rfl | rfl | rfl
      · exact fun h => h
      · rintro ⟨r, rfl, h1, h2⟩
        exact ⟨r, rfl, h1, hab.some h2⟩
      · intro h r hr
        exact hab.done (h r hr)
    simp -implicitDefEqProofs (maxSteps := 1000000) only [↓zvN, zvU, ↓zqD, ↓h_cons, ↓hs_guard, ↓hs_none, ↓h_some, ↓hs_nil, ↓lookH_nil, ↓lookH_cons, ↓given_store, ↓zvE, zvM, init, one, Value.cells, simprocAttr, tyF, cx2, lx2, v2, l2]
    refine ⟨fun w5 hf5 => ?_, ?_⟩
    · refine call_ok Tryz.call136 (hget w5 hf5.below) ?_
      rintro _ w6 ⟨rfl, hm6⟩
      simp -implicitDefEqProofs (maxSteps := 1000000) only [↓zvN, zvU, ↓zqD, ↓h_cons, ↓hs_guard, ↓hs_none, ↓h_some, ↓hs_nil, ↓lookH_nil, ↓lookH_cons, ↓given_store, ↓zvE, zvM, init, one, Value.cells, simprocAttr, tyF]
      exact Fin.of_more hm6 hf5.below.size
    rintro _ ⟨w5, hf5, rfl⟩
    simp -implicitDefEqProofs (maxSteps := 1000000) only [↓zvN, zvU, ↓zqD, ↓h_cons, ↓hs_guard, ↓hs_none, ↓h_some, ↓hs_nil, ↓lookH_nil, ↓lookH_cons, ↓given_store, ↓zvE, zvM, init, one, Value.cells, simprocAttr, tyF, zerEntry]
    refine ⟨fun w6 hf6 => ?_, ?_⟩
    · have hle := hf6.below.size
      have hmm := more_alloc w6 (.cells #[.int .i64 0, .pointer none] 247)
      exact ⟨Fin.of_more hmm hle, w6.heap.size, rfl, hle, _, Blk.new .., rfl⟩
    rintro _ ⟨w6, hf6, r, rfl, hr, _⟩
    simp -implicitDefEqProofs (maxSteps := 1000000) only [↓zvN, zvU, ↓zqD, ↓h_cons, ↓hs_guard, ↓hs_none, ↓h_some, ↓hs_nil, ↓lookH_nil, ↓lookH_cons, ↓given_store, ↓zvE, zvM, init, one, Value.cells, simprocAttr, tyF]
    refine ⟨fun w7 hf7 hd7 => ?_, ?_⟩
    · obtain ⟨r', er, _, cs, hcs, hcl⟩ := hd7
      cases er
      refine st_all hcs rfl hcl (by intro u hu; simp at hu; rcases hu with rfl | rfl <;> rfl) fun w8 k1 k2 => ?_
      refine ⟨Fin.of_wr k1 hcs k2 hr, fun r1 h1 => ?_⟩
      cases h1
      exact k2
    rintro _ ⟨w7, hf7, _, _⟩
    rw [stop1]
    simp -implicitDefEqProofs (maxSteps := 1000000) only [↓zvN, zvU, ↓zqD, ↓h_cons, ↓hs_guard, ↓hs_none, ↓h_some, ↓hs_nil, ↓lookH_nil, ↓lookH_cons, ↓given_store, ↓zvE, zvM, init, one, Value.cells, simprocAttr, tyF]
    intro w8 hf8 hd8
    have hb8 : Blk w8 r 247 [.int .i64 0, .pointer none] := (by
      first
      | exact hd8 r rfl
      | exact hd8.1 r rfl
      | exact hd8.2 r rfl
      | exact hd8.2.1 r rfl
      | exact hd8.2.2 r rfl)
    have hm8 : More w2 w8 := hf8.below
    try simp -implicitDefEqProofs (maxSteps := 1000000) only [↓zvN, zvU, ↓zvE, zvM, init, one, Value.cells, simprocAttr, tyF, p_nil]
    exact ⟨rfl, hB2.more hm8, hmm2.trans (Mod.of_more hm8)⟩
theorem box_all (w : World) (x b t room : Nat) (term rate burst : Int) (L : BoxL) (now : Int) (hB : BoxW w x b t room term rate burst L) :
    Ret Tryz.prog 60 #[.pointer (some ⟨x, 0, none⟩), .int .i64 now] w fun v w' => ∃ A c, v = .slice A (sweepL now L).length c ∧ Cs w' A ((keysM (sweepL now L)).flatMap PrefM.cells) ∧ (∀ a, A = some a → w.heap.size ≤ a.block) ∧ BoxW w' x b t room term rate burst (sweepL now L) ∧ Mod (duoT b t) w w' := by
  refine ret_of Tryz.func60 rfl (by kernel_rfl) (Nat.le_of_ble_eq_true (by kernel_rfl)) ?_
  simp -implicitDefEqProofs (maxSteps := 1000000) only [↓zvN, zvU, ↓zvE, zvM, init, one, Value.cells, simprocAttr, tyF]
  refine call_ok Tryz.call135 (box_sweep w x b t room term rate burst L now hB) ?_
  rintro _ w2 ⟨rfl, hB2, hm2⟩
  have cx2 := hB2.box.cell 0
  simp only [List.getElem?_cons_zero] at cx2
  simp -implicitDefEqProofs (maxSteps := 1000000) only [↓zvN, zvU, ↓zvE, zvM, init, one, Value.cells, simprocAttr, tyF, cx2]
  refine call_ok Tryz.call146 (tab_all_box w2 b t _ room hB2.tab) ?_
  rintro _ w3 ⟨A, c, rfl, hA, hAb, hm3⟩
  rw [keys_entB] at hA ⊢
  have hkl : (keysM (sweepL now L)).length = (sweepL now L).length := by unfold keysM; rw [List.length_map]
  rw [hkl]
  simp -implicitDefEqProofs (maxSteps := 1000000) only [↓zvN, zvU, ↓zvE, zvM, init, one, Value.cells, simprocAttr, tyF]
  have := hm2.size
  exact ⟨A, c, rfl, hA, fun a ha => by have := hAb a ha; omega, hB2.more hm3, hm2.trans (Mod.of_more hm3)⟩
def takeL (L : BoxL) (p : PrefM) (now n : Int) : BoxL := L.map fun e => if e.1 = p then (e.1, { e.2 with tok := e.2.tok.take now n }) else e
def canB (now n : Int) (L : BoxL) (p : PrefM) : Bool := match getL (sweepL now L) p with | some e => e.tok.can (max now 0) n | none => false
def owns (b t : Nat) (L : BoxL) (k : Nat) : Prop := duoT b t k ∨ ∃ e ∈ L, k = e.2.q
theorem keys_take (L : BoxL) (p : PrefM) (now n : Int) : keysM (takeL L p now n) = keysM L := by
  unfold keysM takeL
  rw [List.map_map]
  apply List.map_congr_left
  intro e _
  simp only [Function.comp]
  split <;> rfl
theorem ent_take (L : BoxL) (p : PrefM) (now n : Int) : (takeL L p now n).map entB = L.map entB := by
  unfold takeL
  rw [List.map_map]
  apply List.map_congr_left
  intro e _
  simp only [Function.comp]
  split <;> rfl
theorem box_take (w : World) (x b t room : Nat) (term rate burst : Int) (L : BoxL) (p : PrefM) (now n : Int) (hp : p.addr.length = 7) (hB : BoxW w x b t room term rate burst L) (hn : now ≤ 9223372036854775807) (hn2 : n ≤ 9223372036854775807) :
    Ret Tryz.prog 140 #[.pointer (some ⟨x, 0, none⟩), .agg p.cells.toArray, .int .i64 now, .int .i64 n] w fun v w' => v = .bool (canB now n L p) ∧ BoxW w' x b t room term rate burst (takeL (sweepL now L) p (max now 0) n) ∧ Mod (owns b t L) w w' := by
  refine ret_of Tryz.func140 rfl (by kernel_rfl) (Nat.le_of_ble_eq_true (by kernel_rfl)) ?_
  have hm1 := more_alloc w (.cells p.cells.toArray 37)
  have hb1 := Blk.new w 37 p.cells.toArray
  simp -implicitDefEqProofs (maxSteps := 1000000) only [↓zvN, zvU, ↓zvE, zvM, init, one, Value.cells, simprocAttr, tyF]
  obtain ⟨w1, hw1⟩ : ∃ w1, w.alloc (.cells p.cells.toArray 37) = w1 := ⟨_, rfl⟩
  rw [hw1] at hm1 hb1 ⊢
  clear hw1
  rw [List.toList_toArray] at hb1
  have hpb2 : ¬ duoT b t w.heap.size := by have := hB.tab.lt; rintro (h | h) <;> omega
  obtain ⟨pb, hpb⟩ : ∃ q, w.heap.size = q := ⟨_, rfl⟩
  rw [hpb] at hb1 hpb2 ⊢
  have h8 : p.cells.length = 8 := by simp [PrefM.cells, hp]
  try simp -implicitDefEqProofs (maxSteps := 1000000) only [↓zvN, zvU, ↓zvE, zvM, init, one, Value.cells, simprocAttr, tyF]
  refine call_ok Tryz.call135 (box_sweep w1 x b t room term rate burst L now (hB.more hm1)) ?_
  rintro _ w2 ⟨rfl, hB2, hm2⟩
  have hb2 := hm2.blk hb1 hpb2
  have cx2 := hB2.box.cell 0
  simp only [List.getElem?_cons_zero] at cx2
  have lx2 := hB2.box.lt
  have v2 := hb2.all_eq 8 h8
  have l2 := hb2.lt
  have hsrt := hB2.sorted
  have hmm2 : Mod (duoT b t) w w2 := (Mod.of_more hm1).trans hm2
  have emax : (if now < 0 then (0 : Int) else now) = max now 0 := by split <;> omega
  have hmo : Mod (owns b t L) w w2 := hmm2.mono fun k _ h => .inl h
  by_cases hin : p ∈ keysM (sweepL now L)
  · obtain ⟨u, hu⟩ := mem_keys.1 hin
    have hgu := get_some hsrt hu
    have hget := gets_some hB2 hp hgu
    have hcan : canB now n L p = u.tok.can (max now 0) n := by unfold canB; rw [hgu]
    rw [hcan]
    simp -implicitDefEqProofs (maxSteps := 1000000) only [↓zvN, zvU, ↓zvE, zvM, init, one, Value.cells, simprocAttr, tyF]
    refine draw_finH 247 [.int .i64 u.until_, .pointer (some ⟨u.q, 0, none⟩)] 11 [[], [0], [0, 1], [0, 1, 2], [], [0, 1, 2, 3, 4], [0, 1, 2, 3, 4, 5], [0, 1, 2, 3, 4, 5, 6], [0, 1, 2, 3, 4, 5, 6], [], [0, 1, 2, 3, 4, 5, 6, 7, 9], [0, 1, 2, 3, 4, 5, 6, 7, 8, 9, 10]]
      [(5, fun _ v _ => v = .tuple #[.agg #[.int .i64 u.until_, .pointer (some ⟨u.q, 0, none⟩)], .bool true]), (9, fun _ v w' => EntF w2.heap.size v w'), (10, fun g _ w' => ∀ r, g[0]? = some (.pointer (some ⟨r, 0, none⟩)) → Blk w' r 247 [.int .i64 u.until_, .pointer (some ⟨u.q, 0, none⟩)])] mixed (by kernel_rfl) (by kernel_rfl) ?_ ?_
    · intro y hy g v a b hab
      simp only [List.mem_cons, List.not_mem_nil, or_false] at hy
      rcases hy with rfl | rfl | rfl
      · exact fun h => h
      · rintro ⟨r, rfl, h1, h2⟩
        exact ⟨r, rfl, h1, hab.some h2⟩
      · intro h r hr
        exact hab.done (h r hr)
    simp -implicitDefEqProofs (maxSteps := 1000000) only [↓zvN, zvU, ↓zqD, ↓h_cons, ↓hs_guard, ↓hs_none, ↓h_some, ↓hs_nil, ↓lookH_nil, ↓lookH_cons, ↓given_store, ↓zvE, zvM, init, one, Value.cells, simprocAttr, tyF, cx2, lx2, v2, l2]
    refine ⟨fun w5 hf5 => ?_, ?_⟩
    · refine call_ok Tryz.call136 (hget w5 hf5.below) ?_
      rintro _ w6 ⟨rfl, hm6⟩
      simp -implicitDefEqProofs (maxSteps := 1000000) only [↓zvN, zvU, ↓zqD, ↓h_cons, ↓hs_guard, ↓hs_none, ↓h_some, ↓hs_nil, ↓lookH_nil, ↓lookH_cons, ↓given_store, ↓zvE, zvM, init, one, Value.cells, simprocAttr, tyF]
      exact Fin.of_more hm6 hf5.below.size
    rintro _ ⟨w5, hf5, rfl⟩
    simp -implicitDefEqProofs (maxSteps := 1000000) only [↓zvN, zvU, ↓zqD, ↓h_cons, ↓hs_guard, ↓hs_none, ↓h_some, ↓hs_nil, ↓lookH_nil, ↓lookH_cons, ↓given_store, ↓zvE, zvM, init, one, Value.cells, simprocAttr, tyF, zerEntry]
    refine ⟨fun w6 hf6 => ?_, ?_⟩
    · have hle := hf6.below.size
      have hmm := more_alloc w6 (.cells #[.int .i64 0, .pointer none] 247)
      exact ⟨Fin.of_more hmm hle, w6.heap.size, rfl, hle, _, Blk.new .., rfl⟩
    rintro _ ⟨w6, hf6, r, rfl, hr, _⟩
    simp -implicitDefEqProofs (maxSteps := 1000000) only [↓zvN, zvU, ↓zqD, ↓h_cons, ↓hs_guard, ↓hs_none, ↓h_some, ↓hs_nil, ↓lookH_nil, ↓lookH_cons, ↓given_store, ↓zvE, zvM, init, one, Value.cells, simprocAttr, tyF]
    refine ⟨fun w7 hf7 hd7 => ?_, ?_⟩
    · obtain ⟨r', er, _, cs, hcs, hcl⟩ := hd7
      cases er
      refine st_all hcs rfl hcl (by intro u hu; simp at hu; rcases hu with rfl | rfl <;> rfl) fun w8 k1 k2 => ?_
      refine ⟨Fin.of_wr k1 hcs k2 hr, fun r1 h1 => ?_⟩
      cases h1
      exact k2
    rintro _ ⟨w7, hf7, _, _⟩
    rw [stop1]
    simp -implicitDefEqProofs (maxSteps := 1000000) only [↓zvN, zvU, ↓zqD, ↓h_cons, ↓hs_guard, ↓hs_none, ↓h_some, ↓hs_nil, ↓lookH_nil, ↓lookH_cons, ↓given_store, ↓zvE, zvM, init, one, Value.cells, simprocAttr, tyF]
    intro w8 hf8 hd8
    have hb8 : Blk w8 r 247 [.int .i64 u.until_, .pointer (some ⟨u.q, 0, none⟩)] := (by
      first
      | exact hd8 r rfl
      | exact hd8.1 r rfl
      | exact hd8.2 r rfl
      | exact hd8.2.1 r rfl
      | exact hd8.2.2 r rfl)
    have hm8 : More w2 w8 := hf8.below
    try simp -implicitDefEqProofs (maxSteps := 1000000) only [↓zvN, zvU, ↓zvE, zvM, init, one, Value.cells, simprocAttr, tyF, p_nil]
    have c1 : w8.cell? ⟨r, 1, none⟩ = some (.pointer (some ⟨u.q, 0, none⟩)) := by rw [hb8.cell]; rfl
    have hB8 := hB2.more hm8
    have hut := hB8.own.tok _ hu
    simp -implicitDefEqProofs (maxSteps := 1000000) only [↓zvN, zvU, ↓zvE, zvM, init, one, Value.cells, simprocAttr, tyF, c1, emax]
    refine call_ok Tryz.call138 (token_take w8 u.q u.tok (max now 0) n hut.1 hut.2 (by omega) hn2) ?_
    rintro _ w9 ⟨rfl, hq9, bt9⟩
    simp -implicitDefEqProofs (maxSteps := 1000000) only [↓zvN, zvU, ↓zvE, zvM, init, one, Value.cells, simprocAttr, tyF]
    have hus := hB8.own.sep _ hu
    refine ⟨rfl, ⟨bt9.blk hB8.box (fun h => hus.2.2 h.symm), ?_, ⟨?_, ?_, ?_⟩, hB8.ne, hB8.room_le, hB8.ok⟩, (hmo.trans (Mod.of_more hm8)).trans (Mod.mono bt9 fun k _ h => .inr ⟨_, (List.mem_filter.1 hu).1, h⟩)⟩
    · rw [ent_take]
      exact hB8.tab.mod bt9 (fun h => hus.1 h.symm) (fun h => hus.2.1 h.symm)
    · intro e he
      obtain ⟨d, hd, rfl⟩ := List.mem_map.1 he
      by_cases hdp : d.1 = p
      · have hdu : d.2 = u := SortedM.one hsrt (p := p) (by rw [← hdp]; exact hd) hu
        rw [if_pos hdp]
        simp only
        rw [hdu]
        exact ⟨hq9, TokM.take_ok hut.2 _ _⟩
      · rw [if_neg hdp]
        have hne : d.2.q ≠ u.q := fun h => hdp (by have := hB8.own.one d hd _ hu h; rw [this])
        exact ⟨bt9.blk (hB8.own.tok d hd).1 hne, (hB8.own.tok d hd).2⟩
    · intro e he
      obtain ⟨d, hd, rfl⟩ := List.mem_map.1 he
      have := hB8.own.sep d hd
      split <;> exact this
    · intro e he e' he' hq
      obtain ⟨d, hd, rfl⟩ := List.mem_map.1 he
      obtain ⟨d', hd', rfl⟩ := List.mem_map.1 he'
      have : d = d' := hB8.own.one d hd d' hd' (by split at hq <;> split at hq <;> exact hq)
      rw [this]
  · have hgn := get_none hin
    have hget := gets_none hB2 hp hgn
    have hcan : canB now n L p = false := by unfold canB; rw [hgn]
    have htl : takeL (sweepL now L) p (max now 0) n = sweepL now L := by
      unfold takeL
      conv => rhs; rw [← List.map_id (sweepL now L)]
      apply List.map_congr_left
      intro e he
      rw [if_neg (fun h => hin (mem_keys.2 ⟨e.2, by rw [← h]; exact he⟩))]
      rfl
    rw [hcan, htl]
    simp -implicitDefEqProofs (maxSteps := 1000000) only [↓zvN, zvU, ↓zvE, zvM, init, one, Value.cells, simprocAttr, tyF]
    refine draw_finH 247 [.int .i64 0, .pointer none] 11 [[], [0], [0, 1], [0, 1, 2], [], [0, 1, 2, 3, 4], [0, 1, 2, 3, 4, 5], [0, 1, 2, 3, 4, 5, 6], [0, 1, 2, 3, 4, 5, 6], [], [0, 1, 2, 3, 4, 5, 6, 7, 9], [0, 1, 2, 3, 4, 5, 6, 7, 8, 9, 10]]
      [(5, fun _ v _ => v = .tuple #[.agg #[.int .i64 0, .pointer none], .bool false]), (9, fun _ v w' => EntF w2.heap.size v w'), (10, fun g _ w' => ∀ r, g[0]? = some (.pointer (some ⟨r, 0, none⟩)) → Blk w' r 247 [.int .i64 0, .pointer none])] mixed (by kernel_rfl) (by kernel_rfl) ?_ ?_
    · intro y hy g v a b hab
      simp only [List.mem_cons, List.not_mem_nil, or_false] at hy
      rcases hy with rfl | rfl | rfl
      · exact fun h => h
      · rintro ⟨r, rfl, h1, h2⟩
        exact ⟨r, rfl, h1, hab.some h2⟩
      · intro h r hr
        exact hab.done (h r hr)
    simp -implicitDefEqProofs (maxSteps := 1000000) only [↓zvN, zvU, ↓zqD, ↓h_cons, ↓hs_guard, ↓hs_none, ↓h_some, ↓hs_nil, ↓lookH_nil, ↓lookH_cons, ↓given_store, ↓zvE, zvM, init, one, Value.cells, simprocAttr, tyF, cx2, lx2, v2, l2]
    refine ⟨fun w5 hf5 => ?_, ?_⟩
    · refine call_ok Tryz.call136 (hget w5 hf5.below) ?_
      rintro _ w6 ⟨rfl, hm6⟩
      simp -implicitDefEqProofs (maxSteps := 1000000) only [↓zvN, zvU, ↓zqD, ↓h_cons, ↓hs_guard, ↓hs_none, ↓h_some, ↓hs_nil, ↓lookH_nil, ↓lookH_cons, ↓given_store, ↓zvE, zvM, init, one, Value.cells, simprocAttr, tyF]
      exact Fin.of_more hm6 hf5.below.size
    rintro _ ⟨w5, hf5, rfl⟩
    simp -implicitDefEqProofs (maxSteps := 1000000) only [↓zvN, zvU, ↓zqD, ↓h_cons, ↓hs_guard, ↓hs_none, ↓h_some, ↓hs_nil, ↓lookH_nil, ↓lookH_cons, ↓given_store, ↓zvE, zvM, init, one, Value.cells, simprocAttr, tyF, zerEntry]
    refine ⟨fun w6 hf6 => ?_, ?_⟩
    · have hle := hf6.below.size
      have hmm := more_alloc w6 (.cells #[.int .i64 0, .pointer none] 247)
      exact ⟨Fin.of_more hmm hle, w6.heap.size, rfl, hle, _, Blk.new .., rfl⟩
    rintro _ ⟨w6, hf6, r, rfl, hr, _⟩
    simp -implicitDefEqProofs (maxSteps := 1000000) only [↓zvN, zvU, ↓zqD, ↓h_cons, ↓hs_guard, ↓hs_none, ↓h_some, ↓hs_nil, ↓lookH_nil, ↓lookH_cons, ↓given_store, ↓zvE, zvM, init, one, Value.cells, simprocAttr, tyF]
    refine ⟨fun w7 hf7 hd7 => ?_, ?_⟩
    · obtain ⟨r', er, _, cs, hcs, hcl⟩ := hd7
      cases er
      refine st_all hcs rfl hcl (by intro u hu; simp at hu; rcases hu with rfl | rfl <;> rfl) fun w8 k1 k2 => ?_
      refine ⟨Fin.of_wr k1 hcs k2 hr, fun r1 h1 => ?_⟩
      cases h1
      exact k2
    rintro _ ⟨w7, hf7, _, _⟩
    rw [stop1]
    simp -implicitDefEqProofs (maxSteps := 1000000) only [↓zvN, zvU, ↓zqD, ↓h_cons, ↓hs_guard, ↓hs_none, ↓h_some, ↓hs_nil, ↓lookH_nil, ↓lookH_cons, ↓given_store, ↓zvE, zvM, init, one, Value.cells, simprocAttr, tyF]
    intro w8 hf8 hd8
    have hb8 : Blk w8 r 247 [.int .i64 0, .pointer none] := (by
      first
      | exact hd8 r rfl
      | exact hd8.1 r rfl
      | exact hd8.2 r rfl
      | exact hd8.2.1 r rfl
      | exact hd8.2.2 r rfl)
    have hm8 : More w2 w8 := hf8.below
    try simp -implicitDefEqProofs (maxSteps := 1000000) only [↓zvN, zvU, ↓zvE, zvM, init, one, Value.cells, simprocAttr, tyF, p_nil]
    exact ⟨rfl, hB2.more hm8, hmo.trans (Mod.of_more hm8)⟩
def tok0 (rate burst : Int) : TokM := ⟨rate, burst * 1048576, burst * 1048576, 0⟩
def newE (now term rate burst : Int) (q : Nat) : BoxE := ⟨addM now term, q, (tok0 rate burst).take now 0⟩
theorem tok0_ok {rate burst : Int} (h : tokOk rate burst) : (tok0 rate burst).Ok := by
  have ⟨h1, h2, h3, h4⟩ := h
  exact ⟨h1, h2, by show 0 ≤ burst * 1048576; omega, by show burst * 1048576 ≤ 1125899906842624; omega, by show 0 ≤ burst * 1048576; omega, Int.le_refl _, Int.le_refl _⟩
def putCode (now : Int) (L : BoxL) (room : Nat) (p : PrefM) : Int := if p ∈ keysM (sweepL now L) then 7 else if (sweepL now L).length < room then 0 else 6
def putB (now : Int) (L : BoxL) (room : Nat) (p : PrefM) (e : BoxE) : BoxL := if p ∈ keysM (sweepL now L) then sweepL now L else if (sweepL now L).length < room then putL (sweepL now L) p e else sweepL now L
theorem box_put (w : World) (x b t room : Nat) (term rate burst : Int) (L : BoxL) (p : PrefM) (now : Int) (hp : p.addr.length = 7) (hB : BoxW w x b t room term rate burst L) (hn : now ≤ 9223372036854775807) :
    Ret Tryz.prog 56 #[.pointer (some ⟨x, 0, none⟩), .agg p.cells.toArray, .int .i64 now] w fun v w' => ∃ q, w.heap.size ≤ q ∧ v = .int .i64 (putCode now L room p) ∧ BoxW w' x b t room term rate burst (putB now L room p (newE now term rate burst q)) ∧ Mod (duoT b t) w w' := by
  refine ret_of Tryz.func56 rfl (by kernel_rfl) (Nat.le_of_ble_eq_true (by kernel_rfl)) ?_
  have hm1 := more_alloc w (.cells p.cells.toArray 37)
  have hb1 := Blk.new w 37 p.cells.toArray
  simp -implicitDefEqProofs (maxSteps := 1000000) only [↓zvN, zvU, ↓zvE, zvM, init, one, Value.cells, simprocAttr, tyF]
  obtain ⟨w1, hw1⟩ : ∃ w1, w.alloc (.cells p.cells.toArray 37) = w1 := ⟨_, rfl⟩
  rw [hw1] at hm1 hb1 ⊢
  clear hw1
  rw [List.toList_toArray] at hb1
  have hpb2 : ¬ duoT b t w.heap.size := by have := hB.tab.lt; rintro (h | h) <;> omega
  obtain ⟨pb, hpb⟩ : ∃ q, w.heap.size = q := ⟨_, rfl⟩
  rw [hpb] at hb1 hpb2 ⊢
  have h8 : p.cells.length = 8 := by simp [PrefM.cells, hp]
  try simp -implicitDefEqProofs (maxSteps := 1000000) only [↓zvN, zvU, ↓zvE, zvM, init, one, Value.cells, simprocAttr, tyF]
  refine call_ok Tryz.call135 (box_sweep w1 x b t room term rate burst L now (hB.more hm1)) ?_
  rintro _ w2 ⟨rfl, hB2, hm2⟩
  have hb2 := hm2.blk hb1 hpb2
  have cx2 := hB2.box.cell 0
  simp only [List.getElem?_cons_zero] at cx2
  have lx2 := hB2.box.lt
  have v2 := hb2.all_eq 8 h8
  have l2 := hb2.lt
  have hsrt := hB2.sorted
  have hmm2 : Mod (duoT b t) w w2 := (Mod.of_more hm1).trans hm2
  by_cases hin : p ∈ keysM (sweepL now L)
  · obtain ⟨u, hu⟩ := mem_keys.1 hin
    have hget := gets_some hB2 hp (get_some hsrt hu)
    have hcode : putCode now L room p = 7 := by unfold putCode; rw [if_pos hin]
    have hput : ∀ e, putB now L room p e = sweepL now L := fun e => by unfold putB; rw [if_pos hin]
    simp -implicitDefEqProofs (maxSteps := 1000000) only [↓zvN, zvU, ↓zvE, zvM, init, one, Value.cells, simprocAttr, tyF]
    refine draw_finH 247 [.int .i64 u.until_, .pointer (some ⟨u.q, 0, none⟩)] 11 [[], [0], [0, 1], [0, 1, 2], [], [0, 1, 2, 3, 4], [0, 1, 2, 3, 4, 5], [0, 1, 2, 3, 4, 5, 6], [0, 1, 2, 3, 4, 5, 6], [], [0, 1, 2, 3, 4, 5, 6, 7, 9], [0, 1, 2, 3, 4, 5, 6, 7, 8, 9, 10]]
      [(5, fun _ v _ => v = .tuple #[.agg #[.int .i64 u.until_, .pointer (some ⟨u.q, 0, none⟩)], .bool true]), (9, fun _ v w' => EntF w2.heap.size v w'), (10, fun g _ w' => ∀ r, g[0]? = some (.pointer (some ⟨r, 0, none⟩)) → Blk w' r 247 [.int .i64 u.until_, .pointer (some ⟨u.q, 0, none⟩)])] mixed (by kernel_rfl) (by kernel_rfl) ?_ ?_
    · intro y hy g v a b hab
      simp only [List.mem_cons, List.not_mem_nil, or_false] at hy
      rcases hy with rfl | rfl | rfl
      · exact fun h => h
      · rintro ⟨r, rfl, h1, h2⟩
        exact ⟨r, rfl, h1, hab.some h2⟩
      · intro h r hr
        exact hab.done (h r hr)
    simp -implicitDefEqProofs (maxSteps := 1000000) only [↓zvN, zvU, ↓zqD, ↓h_cons, ↓hs_guard, ↓hs_none, ↓h_some, ↓hs_nil, ↓lookH_nil, ↓lookH_cons, ↓given_store, ↓zvE, zvM, init, one, Value.cells, simprocAttr, tyF, cx2, lx2, v2, l2]
    refine ⟨fun w5 hf5 => ?_, ?_⟩
    · refine call_ok Tryz.call136 (hget w5 hf5.below) ?_
      rintro _ w6 ⟨rfl, hm6⟩
      simp -implicitDefEqProofs (maxSteps := 1000000) only [↓zvN, zvU, ↓zqD, ↓h_cons, ↓hs_guard, ↓hs_none, ↓h_some, ↓hs_nil, ↓lookH_nil, ↓lookH_cons, ↓given_store, ↓zvE, zvM, init, one, Value.cells, simprocAttr, tyF]
      exact Fin.of_more hm6 hf5.below.size
    rintro _ ⟨w5, hf5, rfl⟩
    simp -implicitDefEqProofs (maxSteps := 1000000) only [↓zvN, zvU, ↓zqD, ↓h_cons, ↓hs_guard, ↓hs_none, ↓h_some, ↓hs_nil, ↓lookH_nil, ↓lookH_cons, ↓given_store, ↓zvE, zvM, init, one, Value.cells, simprocAttr, tyF, zerEntry]
    refine ⟨fun w6 hf6 => ?_, ?_⟩
    · have hle := hf6.below.size
      have hmm := more_alloc w6 (.cells #[.int .i64 0, .pointer none] 247)
      exact ⟨Fin.of_more hmm hle, w6.heap.size, rfl, hle, _, Blk.new .., rfl⟩
    rintro _ ⟨w6, hf6, r, rfl, hr, _⟩
    simp -implicitDefEqProofs (maxSteps := 1000000) only [↓zvN, zvU, ↓zqD, ↓h_cons, ↓hs_guard, ↓hs_none, ↓h_some, ↓hs_nil, ↓lookH_nil, ↓lookH_cons, ↓given_store, ↓zvE, zvM, init, one, Value.cells, simprocAttr, tyF]
    refine ⟨fun w7 hf7 hd7 => ?_, ?_⟩
    · obtain ⟨r', er, _, cs, hcs, hcl⟩ := hd7
      cases er
      refine st_all hcs rfl hcl (by intro u hu; simp at hu; rcases hu with rfl | rfl <;> rfl) fun w8 k1 k2 => ?_
      refine ⟨Fin.of_wr k1 hcs k2 hr, fun r1 h1 => ?_⟩
      cases h1
      exact k2
    rintro _ ⟨w7, hf7, _, _⟩
    rw [stop1]
    simp -implicitDefEqProofs (maxSteps := 1000000) only [↓zvN, zvU, ↓zqD, ↓h_cons, ↓hs_guard, ↓hs_none, ↓h_some, ↓hs_nil, ↓lookH_nil, ↓lookH_cons, ↓given_store, ↓zvE, zvM, init, one, Value.cells, simprocAttr, tyF]
    intro w8 hf8 hd8
    have hb8 : Blk w8 r 247 [.int .i64 u.until_, .pointer (some ⟨u.q, 0, none⟩)] := (by
      first
      | exact hd8 r rfl
      | exact hd8.1 r rfl
      | exact hd8.2 r rfl
      | exact hd8.2.1 r rfl
      | exact hd8.2.2 r rfl)
    have hm8 : More w2 w8 := hf8.below
    try simp -implicitDefEqProofs (maxSteps := 1000000) only [↓zvN, zvU, ↓zvE, zvM, init, one, Value.cells, simprocAttr, tyF, p_nil]
    exact ⟨pb, Nat.le_refl _, by rw [hcode]; rfl, by rw [hput]; exact hB2.more hm8, hmm2.trans (Mod.of_more hm8)⟩
  have hget := gets_none hB2 hp (get_none hin)
  simp -implicitDefEqProofs (maxSteps := 1000000) only [↓zvN, zvU, ↓zvE, zvM, init, one, Value.cells, simprocAttr, tyF]
  refine draw_name fun K hK => ?_
  refine draw_finH 247 [.int .i64 0, .pointer none] 11 [[], [0], [0, 1], [0, 1, 2], [], [0, 1, 2, 3, 4], [0, 1, 2, 3, 4, 5], [0, 1, 2, 3, 4, 5, 6], [0, 1, 2, 3, 4, 5, 6], [], [0, 1, 2, 3, 4, 5, 6, 7, 9], [0, 1, 2, 3, 4, 5, 6, 7, 8, 9, 10]]
    [(5, fun _ v _ => v = .tuple #[.agg #[.int .i64 0, .pointer none], .bool false]), (9, fun _ v w' => EntF w2.heap.size v w'), (10, fun g _ w' => ∀ r, g[0]? = some (.pointer (some ⟨r, 0, none⟩)) → Blk w' r 247 [.int .i64 0, .pointer none])] mixed (by kernel_rfl) (by kernel_rfl) ?_ ?_
  · intro y hy g v a b hab
    simp only [List.mem_cons, List.not_mem_nil, or_false] at hy
    rcases hy with rfl | rfl | rfl
    · exact fun h => h
    · rintro ⟨r, rfl, h1, h2⟩
      exact ⟨r, rfl, h1, hab.some h2⟩
    · intro h r hr
      exact hab.done (h r hr)
  simp -implicitDefEqProofs (maxSteps := 1000000) only [↓zvN, zvU, ↓zqD, ↓h_cons, ↓hs_guard, ↓hs_none, ↓h_some, ↓hs_nil, ↓lookH_nil, ↓lookH_cons, ↓given_store, ↓zvE, zvM, init, one, Value.cells, simprocAttr, tyF, cx2, lx2, v2, l2]
  refine ⟨fun w5 hf5 => ?_, ?_⟩
  · refine call_ok Tryz.call136 (hget w5 hf5.below) ?_
    rintro _ w6 ⟨rfl, hm6⟩
    simp -implicitDefEqProofs (maxSteps := 1000000) only [↓zvN, zvU, ↓zqD, ↓h_cons, ↓hs_guard, ↓hs_none, ↓h_some, ↓hs_nil, ↓lookH_nil, ↓lookH_cons, ↓given_store, ↓zvE, zvM, init, one, Value.cells, simprocAttr, tyF]
    exact Fin.of_more hm6 hf5.below.size
  rintro _ ⟨w5, hf5, rfl⟩
  simp -implicitDefEqProofs (maxSteps := 1000000) only [↓zvN, zvU, ↓zqD, ↓h_cons, ↓hs_guard, ↓hs_none, ↓h_some, ↓hs_nil, ↓lookH_nil, ↓lookH_cons, ↓given_store, ↓zvE, zvM, init, one, Value.cells, simprocAttr, tyF, zerEntry]
  refine ⟨fun w6 hf6 => ?_, ?_⟩
  · have hle := hf6.below.size
    have hmm := more_alloc w6 (.cells #[.int .i64 0, .pointer none] 247)
    exact ⟨Fin.of_more hmm hle, w6.heap.size, rfl, hle, _, Blk.new .., rfl⟩
  rintro _ ⟨w6, hf6, r, rfl, hr, _⟩
  simp -implicitDefEqProofs (maxSteps := 1000000) only [↓zvN, zvU, ↓zqD, ↓h_cons, ↓hs_guard, ↓hs_none, ↓h_some, ↓hs_nil, ↓lookH_nil, ↓lookH_cons, ↓given_store, ↓zvE, zvM, init, one, Value.cells, simprocAttr, tyF]
  refine ⟨fun w7 hf7 hd7 => ?_, ?_⟩
  · obtain ⟨r', er, _, cs, hcs, hcl⟩ := hd7
    cases er
    refine st_all hcs rfl hcl (by intro u hu; simp at hu; rcases hu with rfl | rfl <;> rfl) fun w8 k1 k2 => ?_
    refine ⟨Fin.of_wr k1 hcs k2 hr, fun r1 h1 => ?_⟩
    cases h1
    exact k2
  rintro _ ⟨w7, hf7, _, _⟩
  rw [stop1]
  simp -implicitDefEqProofs (maxSteps := 1000000) only [↓zvN, zvU, ↓zqD, ↓h_cons, ↓hs_guard, ↓hs_none, ↓h_some, ↓hs_nil, ↓lookH_nil, ↓lookH_cons, ↓given_store, ↓zvE, zvM, init, one, Value.cells, simprocAttr, tyF]
  intro w8 hf8 hd8
  have hb8 : Blk w8 r 247 [.int .i64 0, .pointer none] := (by
    first
    | exact hd8 r rfl
    | exact hd8.1 r rfl
    | exact hd8.2 r rfl
    | exact hd8.2.1 r rfl
    | exact hd8.2.2 r rfl)
  have hm8 : More w2 w8 := hf8.below
  try simp -implicitDefEqProofs (maxSteps := 1000000) only [↓zvN, zvU, ↓zvE, zvM, init, one, Value.cells, simprocAttr, tyF, p_nil]
  refine hK _ _ ?_
  clear hK K
  have hB8 := hB2.more hm8
  have hok := hB8.ok
  have d0 := hB8.box.cell 0
  have d1 := hB8.box.cell 1
  have d2 := hB8.box.cell 2
  have d3 := hB8.box.cell 3
  simp only [List.getElem?_cons_zero, List.getElem?_cons_succ] at d0 d1 d2 d3
  simp -implicitDefEqProofs (maxSteps := 1000000) only [↓zvN, zvU, ↓zvE, zvM, init, one, Value.cells, simprocAttr, tyF, d1]
  refine bslice (z := .int .i64 0) (cells := #[.int .i64 now, .int .i64 term]) Tryz.underlying77 int64E2 (by omega) (by have := bcells_list (z := .int .i64 0) [.int .i64 now, .int .i64 term] (by intro v hv; simp at hv; rcases hv with rfl | rfl <;> rfl); exact this) ?_
  have hm9 := more_alloc w8 (.cells #[.int .i64 now, .int .i64 term] 2)
  have hb9 := Blk.new w8 2 #[.int .i64 now, .int .i64 term]
  obtain ⟨w9, hw9⟩ : ∃ w9, w8.alloc (.cells #[.int .i64 now, .int .i64 term] 2) = w9 := ⟨_, rfl⟩
  rw [hw9] at hm9 hb9 ⊢
  clear hw9
  simp -implicitDefEqProofs (maxSteps := 1000000) only [↓zvN, zvU, ↓zvE, zvM, init, one, Value.cells, simprocAttr, tyF]
  refine call_ok Tryz.call137 (num_add w9 now term _ hb9) ?_
  rintro _ w10 ⟨rfl, rfl⟩
  have bd : ∀ (y : Int) (K : Value → Prop), pureP Tryz.prog (Instr.build 247 #[(0, .int .i64 y)]) K = K (.agg #[.int .i64 y, .pointer none]) := fun y K => build_of [.int .i64 y, .pointer none] (by kernel_rfl) zerEntry (by kernel_rfl) w10 K
  have hnew : ∀ q, newE now term rate burst q = ⟨addM now term, q, (tok0 rate burst).take now 0⟩ := fun q => rfl
  obtain ⟨un, hun⟩ : ∃ un, addM now term = un := ⟨_, rfl⟩
  rw [hun] at hnew ⊢
  simp -implicitDefEqProofs (maxSteps := 1000000) only [↓zvN, zvU, ↓zvE, zvM, init, one, Value.cells, simprocAttr, tyF, bd, zerEntry]
  have hm11 := more_alloc w10 (.cells #[.int .i64 0, .pointer none] 247)
  have hb11 := Blk.new w10 247 #[.int .i64 0, .pointer none]
  obtain ⟨w11, hw11⟩ : ∃ w11, w10.alloc (.cells #[.int .i64 0, .pointer none] 247) = w11 := ⟨_, rfl⟩
  rw [hw11] at hm11 hb11 ⊢
  clear hw11
  refine st_all hb11 rfl rfl (by intro u hu; simp at hu; rcases hu with rfl | rfl <;> rfl) fun w12 i1 i2 => ?_
  rw [s2_undef]
  have hm12 : More w10 w12 := more_but hm11 (But.of_wr i1) (Nat.le_refl _)
  have hlo : w.heap.size ≤ w10.heap.size := by have := hmm2.size; have := hm8.size; have := hm9.size; omega
  obtain ⟨eb, heb⟩ : ∃ q, w10.heap.size = q := ⟨_, rfl⟩
  rw [heb] at i2 hlo ⊢
  have hB12 := (hB8.more hm9).more hm12
  have hxe : x < eb := by rw [← heb]; exact (hB8.more hm9).box.lt
  have hbte : b < eb ∧ t < eb := by rw [← heb]; exact (hB8.more hm9).tab.lt
  have hpe : pb < eb := by rw [← heb]; exact ((hb2.more hm8).more hm9).lt
  have hb12 := ((hb2.more hm8).more hm9).more hm12
  have hqe : ∀ e ∈ sweepL now L, e.2.q < eb := fun e he => by rw [← heb]; exact ((hB8.more hm9).own.tok e he).1.lt
  have d0 := hB12.box.cell 0
  have d2 := hB12.box.cell 2
  have d3 := hB12.box.cell 3
  simp only [List.getElem?_cons_zero, List.getElem?_cons_succ] at d0 d2 d3
  have hel : eb < w12.heap.size := i2.lt
  simp -implicitDefEqProofs (maxSteps := 1000000) only [↓zvN, zvU, ↓zvE, zvM, init, one, Value.cells, simprocAttr, tyF]
  refine draw_name fun K hK => ?_
  refine draw_line eb (KeepF eb fun _ => False) [0, 0, 0, 0, 0, 0, 0, 0, 1, 0, 0, 0, 0, 1] [[], [0], [0, 1], [0, 1, 2], [], [4], [4, 5], [4, 5, 6], [0, 1, 2, 3, 4, 5, 6, 7], [0, 1, 2, 3, 4, 5, 6, 7, 8], [0, 1, 2, 3, 4, 5, 6, 7, 8, 9], [0, 1, 2, 3, 4, 5, 6, 7, 8, 9], [0, 1, 2, 3, 4, 5, 6, 7, 8, 9, 10], [0, 1, 2, 3, 4, 5, 6, 7, 8, 9, 10, 12]] mixed (by kernel_rfl) (by kernel_rfl) (KeepF.refl _ _ _) (fun w' h => KeepF.of_more h (by omega) (fun _ h => h.elim)) (fun w' h => h.1) ?_
  intro w13 hm13
  simp -implicitDefEqProofs (maxSteps := 1000000) only [↓zvN, zvU, ↓zqD, ↓sk_nil, ↓sk_cons, ↓sk_guard, ↓sk_zero, ↓sk_one, ↓sk_two, ↓zvE, zvM, init, one, Value.cells, simprocAttr, tyF, d2, d3, hxe]
  refine call_ok Tryz.call132 (token_new w13 rate burst) ?_
  rintro _ w14 ⟨hm14, hyes, _⟩
  obtain ⟨q, rfl, hq, hqb⟩ := hyes hok.2.2
  replace hqb : Blk w14 q 341 (tok0 rate burst).cells := hqb
  have hm1214 := hm13.trans hm14
  have hqeb : eb < q := by have := hm13.size; omega
  simp -implicitDefEqProofs (maxSteps := 1000000) only [↓zvN, zvU, ↓zqD, ↓sk_nil, ↓sk_cons, ↓sk_guard, ↓sk_zero, ↓sk_one, ↓sk_two, ↓zvE, zvM, init, one, Value.cells, simprocAttr, tyF]
  have hk14 : KeepF eb (fun _ => False) w12 w14 := KeepF.of_more hm1214 (by omega) (fun _ h => h.elim)
  refine ⟨hk14, ?_⟩
  refine st_cell (i2.more hm1214) (by simp) rfl fun w15 k1 k2 => ?_
  rw [s2_undef]
  have hk15 : KeepF eb (fun _ => False) w12 w15 := ⟨hk14.1.trans (k1.below (Below.refl _ _) (Nat.le_refl _)), fun _ h => h.elim⟩
  refine ⟨hk15, ?_⟩
  try simp -implicitDefEqProofs (maxSteps := 1000000) only [↓zvN, zvU, ↓zqD, ↓sk_nil, ↓sk_cons, ↓sk_guard, ↓sk_zero, ↓sk_one, ↓sk_two, ↓zvE, zvM, init, one, Value.cells, simprocAttr, tyF]
  refine hK _ _ ?_
  clear hK K
  have hB15 : BoxW w15 x b t room term rate burst (sweepL now L) := by
    have h := hB12.more hm1214
    have bt := But.of_wr k1
    exact ⟨bt.blk h.box (by omega), h.tab.mod bt (by omega) (by omega), h.own.mod bt (fun e he => by have := hqe e he; omega), h.ne, h.room_le, h.ok⟩
  replace k2 : Blk w15 eb 247 [.int .i64 un, .pointer (some ⟨q, 0, none⟩)] := k2
  have hq15 := (But.of_wr k1).blk hqb (by omega)
  have hb15 := (But.of_wr k1).blk (hb12.more hm1214) (by omega)
  have c1 : w15.cell? ⟨eb, 1, none⟩ = some (.pointer (some ⟨q, 0, none⟩)) := by rw [k2.cell]; rfl
  have htok := tok0_ok hok.2.2
  simp -implicitDefEqProofs (maxSteps := 1000000) only [↓zvN, zvU, ↓zvE, zvM, init, one, Value.cells, simprocAttr, tyF, c1]
  refine call_ok Tryz.call138 (token_take w15 q (tok0 rate burst) now 0 hq15 htok hn (by omega)) ?_
  rintro _ w16 ⟨rfl, hq16, bt16⟩
  have hB16 : BoxW w16 x b t room term rate burst (sweepL now L) :=
    ⟨bt16.blk hB15.box (by omega), hB15.tab.mod bt16 (by omega) (by omega), hB15.own.mod bt16 (fun e he => by have := hqe e he; omega), hB15.ne, hB15.room_le, hB15.ok⟩
  have k16 := bt16.blk k2 (by omega)
  have hb16 := bt16.blk hb15 (by omega)
  have d0 := hB16.box.cell 0
  simp only [List.getElem?_cons_zero, List.getElem?_cons_succ] at d0
  have lx := hB16.box.lt
  have v16 := hb16.all_eq 8 h8
  have l16 := hb16.lt
  have ve := k16.all_eq 2 rfl
  have le := k16.lt
  simp -implicitDefEqProofs (maxSteps := 1000000) only [↓zvN, zvU, ↓zvE, zvM, init, one, Value.cells, simprocAttr, tyF]
  refine draw_name fun K hK => ?_
  refine draw_seen 6 [[], [0], [0, 1], [0, 1, 2], [], [], [0, 1, 2, 3, 4, 5], [0, 1, 2, 3, 4, 5, 6]] (RV.look []) mixed (by kernel_rfl) (by kernel_rfl) (look_keeps _ (by simp)) ?_
  simp -implicitDefEqProofs (maxSteps := 1000000) only [↓zvN, zvU, ↓zqD, ↓zvE, zvM, init, one, Value.cells, simprocAttr, tyF, d0, lx, v16, l16, ve, le]
  intro w17 hm17
  try simp -implicitDefEqProofs (maxSteps := 1000000) only [↓zvN, zvU, ↓zvE, zvM, init, one, Value.cells, simprocAttr, tyF, p_nil]
  have hB17 := hB16.more hm17
  have hq17 := hq16.more hm17
  refine call_ok Tryz.call139 (tab_put_box w17 b t _ room p un (some ⟨q, 0, none⟩) hp hB17.tab hB17.room_le) ?_
  rintro _ w18 ⟨rfl, hT18, hm18⟩
  have hlen : (sweepL now L).length = ((sweepL now L).map entB).length := by rw [List.length_map]
  have hmem : p ∉ keysM ((sweepL now L).map entB) := by rw [keys_entB]; exact hin
  have hpo : putOk ((sweepL now L).map entB) room p = decide ((sweepL now L).length < room) := by
    unfold putOk
    rw [decide_eq_false hmem, Bool.false_or, hlen]
  have hM1 : Mod (duoT b t) w w16 := by
    have h12 : Mod (duoT b t) w w12 := ((hmm2.trans (Mod.of_more hm8)).trans (Mod.of_more hm9)).trans (Mod.of_more hm12)
    have h14 : Mod (duoT b t) w w14 := h12.trans (Mod.of_more hm1214)
    have h15 : Mod (duoT b t) w w15 := h14.next (Mod.of_wr (S := fun k => k = eb) k1 rfl) (fun k hk h => by omega)
    exact h15.next bt16 (fun k hk h => by have : k = q := h; omega)
  have hM : Mod (duoT b t) w w18 := (hM1.trans (Mod.of_more hm17)).trans hm18
  have own18 : OwnToks w18 x b t (sweepL now L) := hB17.own.mod hm18 (fun d hd => by have := hB17.own.sep d hd; rintro (h | h); exact this.1 h; exact this.2.1 h)
  have box18 := hm18.blk hB17.box (by rintro (h | h); exact hB17.ne.1 h; exact hB17.ne.2 h)
  have hq18 := hm18.blk hq17 (by rintro (h | h) <;> omega)
  have hpa : putA ((sweepL now L).map entB) room p [.int .i64 un, .pointer (some ⟨q, 0, none⟩)] = (putB now L room p (newE now term rate burst q)).map entB := by
    unfold putA putB
    rw [hpo, if_neg hin]
    by_cases hr : (sweepL now L).length < room
    · rw [if_pos (decide_eq_true hr), if_pos hr, hnew]
      exact put_entB (sweepL now L) p ⟨un, q, (tok0 rate burst).take now 0⟩
    · rw [if_neg (by simpa using hr), if_neg hr]
  rw [hpa] at hT18
  have hfin : BoxW w18 x b t room term rate burst (putB now L room p (newE now term rate burst q)) := by
    refine ⟨box18, hT18, ?_, hB17.ne, hB17.room_le, hB17.ok⟩
    unfold putB
    rw [if_neg hin]
    split
    · have hmm : ∀ e ∈ putL (sweepL now L) p (newE now term rate burst q), e = (p, newE now term rate burst q) ∨ e ∈ sweepL now L := fun e he => by
        rcases mem_putL.1 (show (e.1, e.2) ∈ _ from he) with ⟨h1, h2⟩ | ⟨_, h2⟩
        · left; rw [← h1, ← h2]
        · exact .inr h2
      refine ⟨fun e he => ?_, fun e he => ?_, fun e he e' he' hq' => ?_⟩
      · rcases hmm e he with rfl | h
        · rw [hnew]; exact ⟨hq18, TokM.take_ok htok _ _⟩
        · exact own18.tok e h
      · rcases hmm e he with rfl | h
        · rw [hnew]; exact ⟨by show q ≠ b; omega, by show q ≠ t; omega, by show q ≠ x; omega⟩
        · exact own18.sep e h
      · rcases hmm e he with rfl | h <;> rcases hmm e' he' with rfl | h'
        · rfl
        · have := hqe e' h'
          rw [hnew] at hq'
          have hq' : q = e'.2.q := hq'
          omega
        · have := hqe e h
          rw [hnew] at hq'
          have hq' : e.2.q = q := hq'
          omega
        · exact own18.one e h e' h' hq'
    · exact own18
  rw [hpo]
  have hcode : putCode now L room p = if (sweepL now L).length < room then 0 else 6 := by unfold putCode; rw [if_neg hin]
  by_cases hr : (sweepL now L).length < room
  · rw [if_pos hr] at hcode
    rw [decide_eq_true hr]
    simp -implicitDefEqProofs (maxSteps := 1000000) only [↓zvN, zvU, ↓zvE, zvM, init, one, Value.cells, simprocAttr, tyF, p_nil]
    refine hK _ _ ?_
    simp -implicitDefEqProofs (maxSteps := 1000000) only [↓zvN, zvU, ↓zvE, zvM, init, one, Value.cells, simprocAttr, tyF]
    exact ⟨q, by omega, by rw [hcode]; rfl, hfin, hM⟩
  · rw [if_neg hr] at hcode
    rw [decide_eq_false hr]
    simp -implicitDefEqProofs (maxSteps := 1000000) only [↓zvN, zvU, ↓zvE, zvM, init, one, Value.cells, simprocAttr, tyF, p_nil]
    refine hK _ _ ?_
    simp -implicitDefEqProofs (maxSteps := 1000000) only [↓zvN, zvU, ↓zvE, zvM, init, one, Value.cells, simprocAttr, tyF]
    exact ⟨q, by omega, by rw [hcode]; rfl, hfin, hM⟩
structure PolA where
  p : Nat
  g : Nat
  st : StA
  q : Nat
  ql : Nat
  tu : TuA
  x0 : Nat
  y0 : Nat
  x1 : Nat
  y1 : Nat
  wi : Nat
  sk : Nat
  sb : Nat
  bx : Nat
  bb : Nat
  bt : Nat
structure PolR where
  c : List Int
  g : GensM
  cls : Cls
  m : Nat
  qs : List Int
  tl : List TurnM
  line : List Nat
  b0 : List BinM
  b1 : List BinM
  cap : Nat
  sl : List SlotM
  tot : Int
  wn : Int
  room : Nat
  L : BoxL
  n : Int
def blueK (c : List Int) : BlueK := ⟨(c.getD 2 0).toNat, (c.getD 3 0).toNat, c.getD 13 0, c.getD 14 0, c.getD 4 0, c.getD 5 0⟩
structure Tag (a : PolA) (f : Nat → Nat) (L : BoxL) : Prop where
  p : f a.p = 1
  g : f a.g = 2
  st : ∀ k, (k = a.st.s ∨ k = a.st.cp ∨ a.st.own k) → f k = 3
  qu : ∀ k, duo a.q a.ql k → f k = 4
  tu : ∀ k, a.tu.own k → f k = 5
  b0 : ∀ k, duo a.x0 a.y0 k → f k = 6
  b1 : ∀ k, duo a.x1 a.y1 k → f k = 7
  wi : ∀ k, trio a.wi a.sk a.sb k → f k = 8
  bx : ∀ k, (k = a.bx ∨ duoT a.bb a.bt k) → f k = 9
  tk : ∀ e ∈ L, f e.2.q = 9
structure PolMem (w : World) (a : PolA) (f : Nat → Nat) (r : PolR) : Prop where
  pol : Blk w a.p 133 (polCells r.c (ptrV a.g) (ptrV a.st.s) (ptrV a.q) (ptrV a.tu.t) (ptrV a.x0) (ptrV a.x1) (ptrV a.wi) (ptrV a.bx) r.n)
  gens : Blk w a.g 220 r.g.cells
  st : StoreW w a.st r.cls r.m
  qu : QuotaW w a.q a.ql (r.c.getD 9 0) (r.c.getD 10 0) r.qs
  tu : TurnsW w a.tu (r.c.getD 8 0) r.tl r.line
  b0 : BlueW w a.x0 a.y0 (blueK r.c) r.b0
  b1 : BlueW w a.x1 a.y1 (blueK r.c) r.b1
  wi : WinW w a.wi a.sk a.sb r.cap (r.c.getD 15 0) (r.c.getD 16 0) r.wn r.sl r.tot
  bx : BoxW w a.bx a.bb a.bt r.room (r.c.getD 17 0) (r.c.getD 18 0) (r.c.getD 19 0) r.L
  tag : Tag a f r.L
  lim : ∀ k, f k ≠ 0 → k < w.heap.size
def own (f : Nat → Nat) (k : Nat) : Prop := f k ≠ 0
theorem BoxW.mod {w w' : World} {S : Nat → Prop} {x b t room : Nat} {term rate burst : Int} {L : BoxL} (h : BoxW w x b t room term rate burst L) (hm : Mod S w w') (h1 : ¬ S x) (h2 : ¬ S b) (h3 : ¬ S t) (h4 : ∀ e ∈ L, ¬ S e.2.q) : BoxW w' x b t room term rate burst L :=
  ⟨hm.blk h.box h1, h.tab.mod hm h2 h3, h.own.mod hm h4, h.ne, h.room_le, h.ok⟩
section
variable {w w' : World} {a : PolA} {f : Nat → Nat} {r : PolR}
theorem PolMem.keep (h : PolMem w a f r) {S : Nat → Prop} (hm : Mod S w w') (hS : ∀ k, S k → f k = 0) : PolMem w' a f r := by
  have hno : ∀ k j, f k = j + 1 → ¬ S k := fun k j hk hs => by rw [hS k hs] at hk; cases hk
  have t := h.tag
  refine ⟨hm.blk h.pol (hno _ 0 t.p), hm.blk h.gens (hno _ 1 t.g), h.st.mod hm (hno _ 2 (t.st _ (.inl rfl))) (hno _ 2 (t.st _ (.inr (.inl rfl)))) (fun k hk => hno _ 2 (t.st _ (.inr (.inr hk)))),
    h.qu.mod hm (hno _ 3 (t.qu _ (.inl rfl))) (hno _ 3 (t.qu _ (.inr rfl))), h.tu.mod hm (fun k hk => hno _ 4 (t.tu _ hk)), h.b0.mod hm (hno _ 5 (t.b0 _ (.inl rfl))) (hno _ 5 (t.b0 _ (.inr rfl))), h.b1.mod hm (hno _ 6 (t.b1 _ (.inl rfl))) (hno _ 6 (t.b1 _ (.inr rfl))),
    h.wi.mod hm (hno _ 7 (t.wi _ (.inl rfl))) (hno _ 7 (t.wi _ (.inr (.inl rfl)))) (hno _ 7 (t.wi _ (.inr (.inr rfl)))), h.bx.mod hm (hno _ 8 (t.bx _ (.inl rfl))) (hno _ 8 (t.bx _ (.inr (.inl rfl)))) (hno _ 8 (t.bx _ (.inr (.inr rfl)))) (fun e he => hno _ 8 (t.tk e he)), t, fun k hk => Nat.lt_of_lt_of_le (h.lim k hk) hm.size⟩
theorem PolMem.more (h : PolMem w a f r) (hm : More w w') : PolMem w' a f r := h.keep (S := fun _ => False) (Mod.of_more hm) (fun _ h => h.elim)
theorem PolMem.setSt (h : PolMem w a f r) {cls' : Cls} (hm : Mod a.st.own w w') (hn : StoreW w' a.st cls' r.m) : PolMem w' a f { r with cls := cls' } := by
  have hS : ∀ k, a.st.own k → f k = 3 := (fun k hk => h.tag.st k (.inr (.inr hk)))
  have hno : ∀ k j, f k = j → j ≠ 3 → ¬ a.st.own k := fun k j hk hj hs => hj (by rw [← hk]; exact hS k hs)
  have t := h.tag
  exact ⟨hm.blk h.pol (hno _ 1 t.p (by decide)), hm.blk h.gens (hno _ 2 t.g (by decide)), hn, h.qu.mod hm (hno _ 4 (t.qu _ (.inl rfl)) (by decide)) (hno _ 4 (t.qu _ (.inr rfl)) (by decide)), h.tu.mod hm (fun k hk => hno _ 5 (t.tu _ hk) (by decide)), h.b0.mod hm (hno _ 6 (t.b0 _ (.inl rfl)) (by decide)) (hno _ 6 (t.b0 _ (.inr rfl)) (by decide)), h.b1.mod hm (hno _ 7 (t.b1 _ (.inl rfl)) (by decide)) (hno _ 7 (t.b1 _ (.inr rfl)) (by decide)), h.wi.mod hm (hno _ 8 (t.wi _ (.inl rfl)) (by decide)) (hno _ 8 (t.wi _ (.inr (.inl rfl))) (by decide)) (hno _ 8 (t.wi _ (.inr (.inr rfl))) (by decide)), h.bx.mod hm (hno _ 9 (t.bx _ (.inl rfl)) (by decide)) (hno _ 9 (t.bx _ (.inr (.inl rfl))) (by decide)) (hno _ 9 (t.bx _ (.inr (.inr rfl))) (by decide)) (fun e he => hno _ 9 (t.tk e he) (by decide)), t, fun k hk => Nat.lt_of_lt_of_le (h.lim k hk) hm.size⟩
theorem PolMem.setQu (h : PolMem w a f r) {qs' : List Int} (hm : Mod (duo a.q a.ql) w w') (hn : QuotaW w' a.q a.ql (r.c.getD 9 0) (r.c.getD 10 0) qs') : PolMem w' a f { r with qs := qs' } := by
  have hS : ∀ k, duo a.q a.ql k → f k = 4 := (fun k hk => h.tag.qu k hk)
  have hno : ∀ k j, f k = j → j ≠ 4 → ¬ duo a.q a.ql k := fun k j hk hj hs => hj (by rw [← hk]; exact hS k hs)
  have t := h.tag
  exact ⟨hm.blk h.pol (hno _ 1 t.p (by decide)), hm.blk h.gens (hno _ 2 t.g (by decide)), h.st.mod hm (hno _ 3 (t.st _ (.inl rfl)) (by decide)) (hno _ 3 (t.st _ (.inr (.inl rfl))) (by decide)) (fun k hk => hno _ 3 (t.st _ (.inr (.inr hk))) (by decide)), hn, h.tu.mod hm (fun k hk => hno _ 5 (t.tu _ hk) (by decide)), h.b0.mod hm (hno _ 6 (t.b0 _ (.inl rfl)) (by decide)) (hno _ 6 (t.b0 _ (.inr rfl)) (by decide)), h.b1.mod hm (hno _ 7 (t.b1 _ (.inl rfl)) (by decide)) (hno _ 7 (t.b1 _ (.inr rfl)) (by decide)), h.wi.mod hm (hno _ 8 (t.wi _ (.inl rfl)) (by decide)) (hno _ 8 (t.wi _ (.inr (.inl rfl))) (by decide)) (hno _ 8 (t.wi _ (.inr (.inr rfl))) (by decide)), h.bx.mod hm (hno _ 9 (t.bx _ (.inl rfl)) (by decide)) (hno _ 9 (t.bx _ (.inr (.inl rfl))) (by decide)) (hno _ 9 (t.bx _ (.inr (.inr rfl))) (by decide)) (fun e he => hno _ 9 (t.tk e he) (by decide)), t, fun k hk => Nat.lt_of_lt_of_le (h.lim k hk) hm.size⟩
theorem PolMem.setTu (h : PolMem w a f r) {tl' : List TurnM} {line' : List Nat} (hm : Mod a.tu.own w w') (hn : TurnsW w' a.tu (r.c.getD 8 0) tl' line') : PolMem w' a f { r with tl := tl', line := line' } := by
  have hS : ∀ k, a.tu.own k → f k = 5 := (fun k hk => h.tag.tu k hk)
  have hno : ∀ k j, f k = j → j ≠ 5 → ¬ a.tu.own k := fun k j hk hj hs => hj (by rw [← hk]; exact hS k hs)
  have t := h.tag
  exact ⟨hm.blk h.pol (hno _ 1 t.p (by decide)), hm.blk h.gens (hno _ 2 t.g (by decide)), h.st.mod hm (hno _ 3 (t.st _ (.inl rfl)) (by decide)) (hno _ 3 (t.st _ (.inr (.inl rfl))) (by decide)) (fun k hk => hno _ 3 (t.st _ (.inr (.inr hk))) (by decide)), h.qu.mod hm (hno _ 4 (t.qu _ (.inl rfl)) (by decide)) (hno _ 4 (t.qu _ (.inr rfl)) (by decide)), hn, h.b0.mod hm (hno _ 6 (t.b0 _ (.inl rfl)) (by decide)) (hno _ 6 (t.b0 _ (.inr rfl)) (by decide)), h.b1.mod hm (hno _ 7 (t.b1 _ (.inl rfl)) (by decide)) (hno _ 7 (t.b1 _ (.inr rfl)) (by decide)), h.wi.mod hm (hno _ 8 (t.wi _ (.inl rfl)) (by decide)) (hno _ 8 (t.wi _ (.inr (.inl rfl))) (by decide)) (hno _ 8 (t.wi _ (.inr (.inr rfl))) (by decide)), h.bx.mod hm (hno _ 9 (t.bx _ (.inl rfl)) (by decide)) (hno _ 9 (t.bx _ (.inr (.inl rfl))) (by decide)) (hno _ 9 (t.bx _ (.inr (.inr rfl))) (by decide)) (fun e he => hno _ 9 (t.tk e he) (by decide)), t, fun k hk => Nat.lt_of_lt_of_le (h.lim k hk) hm.size⟩
theorem PolMem.setB0 (h : PolMem w a f r) {bs' : List BinM} (hm : But a.y0 w w') (hn : BlueW w' a.x0 a.y0 (blueK r.c) bs') : PolMem w' a f { r with b0 := bs' } := by
  have hS : ∀ k, (fun k => k = a.y0) k → f k = 6 := (fun k hk => h.tag.b0 k (.inr hk))
  have hno : ∀ k j, f k = j → j ≠ 6 → ¬ (fun k => k = a.y0) k := fun k j hk hj hs => hj (by rw [← hk]; exact hS k hs)
  have t := h.tag
  exact ⟨hm.blk h.pol (hno _ 1 t.p (by decide)), hm.blk h.gens (hno _ 2 t.g (by decide)), h.st.mod hm (hno _ 3 (t.st _ (.inl rfl)) (by decide)) (hno _ 3 (t.st _ (.inr (.inl rfl))) (by decide)) (fun k hk => hno _ 3 (t.st _ (.inr (.inr hk))) (by decide)), h.qu.mod hm (hno _ 4 (t.qu _ (.inl rfl)) (by decide)) (hno _ 4 (t.qu _ (.inr rfl)) (by decide)), h.tu.mod hm (fun k hk => hno _ 5 (t.tu _ hk) (by decide)), hn, h.b1.mod hm (hno _ 7 (t.b1 _ (.inl rfl)) (by decide)) (hno _ 7 (t.b1 _ (.inr rfl)) (by decide)), h.wi.mod hm (hno _ 8 (t.wi _ (.inl rfl)) (by decide)) (hno _ 8 (t.wi _ (.inr (.inl rfl))) (by decide)) (hno _ 8 (t.wi _ (.inr (.inr rfl))) (by decide)), h.bx.mod hm (hno _ 9 (t.bx _ (.inl rfl)) (by decide)) (hno _ 9 (t.bx _ (.inr (.inl rfl))) (by decide)) (hno _ 9 (t.bx _ (.inr (.inr rfl))) (by decide)) (fun e he => hno _ 9 (t.tk e he) (by decide)), t, fun k hk => Nat.lt_of_lt_of_le (h.lim k hk) hm.size⟩
theorem PolMem.setB1 (h : PolMem w a f r) {bs' : List BinM} (hm : But a.y1 w w') (hn : BlueW w' a.x1 a.y1 (blueK r.c) bs') : PolMem w' a f { r with b1 := bs' } := by
  have hS : ∀ k, (fun k => k = a.y1) k → f k = 7 := (fun k hk => h.tag.b1 k (.inr hk))
  have hno : ∀ k j, f k = j → j ≠ 7 → ¬ (fun k => k = a.y1) k := fun k j hk hj hs => hj (by rw [← hk]; exact hS k hs)
  have t := h.tag
  exact ⟨hm.blk h.pol (hno _ 1 t.p (by decide)), hm.blk h.gens (hno _ 2 t.g (by decide)), h.st.mod hm (hno _ 3 (t.st _ (.inl rfl)) (by decide)) (hno _ 3 (t.st _ (.inr (.inl rfl))) (by decide)) (fun k hk => hno _ 3 (t.st _ (.inr (.inr hk))) (by decide)), h.qu.mod hm (hno _ 4 (t.qu _ (.inl rfl)) (by decide)) (hno _ 4 (t.qu _ (.inr rfl)) (by decide)), h.tu.mod hm (fun k hk => hno _ 5 (t.tu _ hk) (by decide)), h.b0.mod hm (hno _ 6 (t.b0 _ (.inl rfl)) (by decide)) (hno _ 6 (t.b0 _ (.inr rfl)) (by decide)), hn, h.wi.mod hm (hno _ 8 (t.wi _ (.inl rfl)) (by decide)) (hno _ 8 (t.wi _ (.inr (.inl rfl))) (by decide)) (hno _ 8 (t.wi _ (.inr (.inr rfl))) (by decide)), h.bx.mod hm (hno _ 9 (t.bx _ (.inl rfl)) (by decide)) (hno _ 9 (t.bx _ (.inr (.inl rfl))) (by decide)) (hno _ 9 (t.bx _ (.inr (.inr rfl))) (by decide)) (fun e he => hno _ 9 (t.tk e he) (by decide)), t, fun k hk => Nat.lt_of_lt_of_le (h.lim k hk) hm.size⟩
theorem PolMem.setWi (h : PolMem w a f r) {wn' tot' : Int} {sl' : List SlotM} (hm : Mod (trio a.wi a.sk a.sb) w w') (hn : WinW w' a.wi a.sk a.sb r.cap (r.c.getD 15 0) (r.c.getD 16 0) wn' sl' tot') : PolMem w' a f { r with wn := wn', sl := sl', tot := tot' } := by
  have hS : ∀ k, trio a.wi a.sk a.sb k → f k = 8 := (fun k hk => h.tag.wi k hk)
  have hno : ∀ k j, f k = j → j ≠ 8 → ¬ trio a.wi a.sk a.sb k := fun k j hk hj hs => hj (by rw [← hk]; exact hS k hs)
  have t := h.tag
  exact ⟨hm.blk h.pol (hno _ 1 t.p (by decide)), hm.blk h.gens (hno _ 2 t.g (by decide)), h.st.mod hm (hno _ 3 (t.st _ (.inl rfl)) (by decide)) (hno _ 3 (t.st _ (.inr (.inl rfl))) (by decide)) (fun k hk => hno _ 3 (t.st _ (.inr (.inr hk))) (by decide)), h.qu.mod hm (hno _ 4 (t.qu _ (.inl rfl)) (by decide)) (hno _ 4 (t.qu _ (.inr rfl)) (by decide)), h.tu.mod hm (fun k hk => hno _ 5 (t.tu _ hk) (by decide)), h.b0.mod hm (hno _ 6 (t.b0 _ (.inl rfl)) (by decide)) (hno _ 6 (t.b0 _ (.inr rfl)) (by decide)), h.b1.mod hm (hno _ 7 (t.b1 _ (.inl rfl)) (by decide)) (hno _ 7 (t.b1 _ (.inr rfl)) (by decide)), hn, h.bx.mod hm (hno _ 9 (t.bx _ (.inl rfl)) (by decide)) (hno _ 9 (t.bx _ (.inr (.inl rfl))) (by decide)) (hno _ 9 (t.bx _ (.inr (.inr rfl))) (by decide)) (fun e he => hno _ 9 (t.tk e he) (by decide)), t, fun k hk => Nat.lt_of_lt_of_le (h.lim k hk) hm.size⟩
theorem PolMem.setN (h : PolMem w a f r) {n' : Int} (hm : But a.p w w') (hn : Blk w' a.p 133 (polCells r.c (ptrV a.g) (ptrV a.st.s) (ptrV a.q) (ptrV a.tu.t) (ptrV a.x0) (ptrV a.x1) (ptrV a.wi) (ptrV a.bx) n')) : PolMem w' a f { r with n := n' } := by
  have hS : ∀ k, (fun k => k = a.p) k → f k = 1 := (fun k hk => by subst hk; exact h.tag.p)
  have hno : ∀ k j, f k = j → j ≠ 1 → ¬ (fun k => k = a.p) k := fun k j hk hj hs => hj (by rw [← hk]; exact hS k hs)
  have t := h.tag
  exact ⟨hn, hm.blk h.gens (hno _ 2 t.g (by decide)), h.st.mod hm (hno _ 3 (t.st _ (.inl rfl)) (by decide)) (hno _ 3 (t.st _ (.inr (.inl rfl))) (by decide)) (fun k hk => hno _ 3 (t.st _ (.inr (.inr hk))) (by decide)), h.qu.mod hm (hno _ 4 (t.qu _ (.inl rfl)) (by decide)) (hno _ 4 (t.qu _ (.inr rfl)) (by decide)), h.tu.mod hm (fun k hk => hno _ 5 (t.tu _ hk) (by decide)), h.b0.mod hm (hno _ 6 (t.b0 _ (.inl rfl)) (by decide)) (hno _ 6 (t.b0 _ (.inr rfl)) (by decide)), h.b1.mod hm (hno _ 7 (t.b1 _ (.inl rfl)) (by decide)) (hno _ 7 (t.b1 _ (.inr rfl)) (by decide)), h.wi.mod hm (hno _ 8 (t.wi _ (.inl rfl)) (by decide)) (hno _ 8 (t.wi _ (.inr (.inl rfl))) (by decide)) (hno _ 8 (t.wi _ (.inr (.inr rfl))) (by decide)), h.bx.mod hm (hno _ 9 (t.bx _ (.inl rfl)) (by decide)) (hno _ 9 (t.bx _ (.inr (.inl rfl))) (by decide)) (hno _ 9 (t.bx _ (.inr (.inr rfl))) (by decide)) (fun e he => hno _ 9 (t.tk e he) (by decide)), t, fun k hk => Nat.lt_of_lt_of_le (h.lim k hk) hm.size⟩
end
def PolR.B (r : PolR) : Nat := (r.c.getD 0 0).toNat
def PolR.pen (r : PolR) : Nat := 2 * r.B
def PolR.blue (r : PolR) (gen : Nat) : List BinM := if gen = 0 then r.b0 else r.b1
def PolR.setBlue (r : PolR) (gen : Nat) (bs : List BinM) : PolR := if gen = 0 then { r with b0 := bs } else { r with b1 := bs }
def PolR.bins (r : PolR) (gen : Nat) (f : FlowM) : List Int := binsM (r.g.key gen) f (r.c.getD 2 0) (r.c.getD 3 0)
def PolR.bump (r : PolR) (gen : Nat) (xs : List Int) (φ : BinM → BinM) : PolR := r.setBlue gen (eachM φ (blueK r.c) xs (blueK r.c).levels (r.blue gen))
def PolR.count (r : PolR) (class_ : Nat) (f : FlowM) (φ : BinM → BinM) : PolR := if class_ = r.pen then r else r.bump (class_ / r.B) (r.bins (class_ / r.B) f) φ
def putF (n : Int) (y : BinM) : BinM := { y with bytes := addM y.bytes n }
def takeF (n : Int) (y : BinM) : BinM := { y with bytes := subM y.bytes n }
@[simp] theorem PolR.setBlue_c (r : PolR) (gen : Nat) (bs : List BinM) : (r.setBlue gen bs).c = r.c := by unfold PolR.setBlue; split <;> rfl
@[simp] theorem PolR.bump_c (r : PolR) (gen : Nat) (xs : List Int) (φ : BinM → BinM) : (r.bump gen xs φ).c = r.c := r.setBlue_c _ _
@[simp] theorem PolR.count_c (r : PolR) (class_ : Nat) (f : FlowM) (φ : BinM → BinM) : (r.count class_ f φ).c = r.c := by unfold PolR.count; split; rfl; exact r.bump_c _ _ _
@[simp] theorem PolR.setBlue_g (r : PolR) (gen : Nat) (bs : List BinM) : (r.setBlue gen bs).g = r.g := by unfold PolR.setBlue; split <;> rfl
@[simp] theorem PolR.bump_g (r : PolR) (gen : Nat) (xs : List Int) (φ : BinM → BinM) : (r.bump gen xs φ).g = r.g := r.setBlue_g _ _
@[simp] theorem PolR.count_g (r : PolR) (class_ : Nat) (f : FlowM) (φ : BinM → BinM) : (r.count class_ f φ).g = r.g := by unfold PolR.count; split; rfl; exact r.bump_g _ _ _
@[simp] theorem PolR.setBlue_cls (r : PolR) (gen : Nat) (bs : List BinM) : (r.setBlue gen bs).cls = r.cls := by unfold PolR.setBlue; split <;> rfl
@[simp] theorem PolR.bump_cls (r : PolR) (gen : Nat) (xs : List Int) (φ : BinM → BinM) : (r.bump gen xs φ).cls = r.cls := r.setBlue_cls _ _
@[simp] theorem PolR.count_cls (r : PolR) (class_ : Nat) (f : FlowM) (φ : BinM → BinM) : (r.count class_ f φ).cls = r.cls := by unfold PolR.count; split; rfl; exact r.bump_cls _ _ _
@[simp] theorem PolR.setBlue_m (r : PolR) (gen : Nat) (bs : List BinM) : (r.setBlue gen bs).m = r.m := by unfold PolR.setBlue; split <;> rfl
@[simp] theorem PolR.bump_m (r : PolR) (gen : Nat) (xs : List Int) (φ : BinM → BinM) : (r.bump gen xs φ).m = r.m := r.setBlue_m _ _
@[simp] theorem PolR.count_m (r : PolR) (class_ : Nat) (f : FlowM) (φ : BinM → BinM) : (r.count class_ f φ).m = r.m := by unfold PolR.count; split; rfl; exact r.bump_m _ _ _
@[simp] theorem PolR.setBlue_qs (r : PolR) (gen : Nat) (bs : List BinM) : (r.setBlue gen bs).qs = r.qs := by unfold PolR.setBlue; split <;> rfl
@[simp] theorem PolR.bump_qs (r : PolR) (gen : Nat) (xs : List Int) (φ : BinM → BinM) : (r.bump gen xs φ).qs = r.qs := r.setBlue_qs _ _
@[simp] theorem PolR.count_qs (r : PolR) (class_ : Nat) (f : FlowM) (φ : BinM → BinM) : (r.count class_ f φ).qs = r.qs := by unfold PolR.count; split; rfl; exact r.bump_qs _ _ _
@[simp] theorem PolR.setBlue_tl (r : PolR) (gen : Nat) (bs : List BinM) : (r.setBlue gen bs).tl = r.tl := by unfold PolR.setBlue; split <;> rfl
@[simp] theorem PolR.bump_tl (r : PolR) (gen : Nat) (xs : List Int) (φ : BinM → BinM) : (r.bump gen xs φ).tl = r.tl := r.setBlue_tl _ _
@[simp] theorem PolR.count_tl (r : PolR) (class_ : Nat) (f : FlowM) (φ : BinM → BinM) : (r.count class_ f φ).tl = r.tl := by unfold PolR.count; split; rfl; exact r.bump_tl _ _ _
@[simp] theorem PolR.setBlue_line (r : PolR) (gen : Nat) (bs : List BinM) : (r.setBlue gen bs).line = r.line := by unfold PolR.setBlue; split <;> rfl
@[simp] theorem PolR.bump_line (r : PolR) (gen : Nat) (xs : List Int) (φ : BinM → BinM) : (r.bump gen xs φ).line = r.line := r.setBlue_line _ _
@[simp] theorem PolR.count_line (r : PolR) (class_ : Nat) (f : FlowM) (φ : BinM → BinM) : (r.count class_ f φ).line = r.line := by unfold PolR.count; split; rfl; exact r.bump_line _ _ _
@[simp] theorem PolR.setBlue_cap (r : PolR) (gen : Nat) (bs : List BinM) : (r.setBlue gen bs).cap = r.cap := by unfold PolR.setBlue; split <;> rfl
@[simp] theorem PolR.bump_cap (r : PolR) (gen : Nat) (xs : List Int) (φ : BinM → BinM) : (r.bump gen xs φ).cap = r.cap := r.setBlue_cap _ _
@[simp] theorem PolR.count_cap (r : PolR) (class_ : Nat) (f : FlowM) (φ : BinM → BinM) : (r.count class_ f φ).cap = r.cap := by unfold PolR.count; split; rfl; exact r.bump_cap _ _ _
@[simp] theorem PolR.setBlue_sl (r : PolR) (gen : Nat) (bs : List BinM) : (r.setBlue gen bs).sl = r.sl := by unfold PolR.setBlue; split <;> rfl
@[simp] theorem PolR.bump_sl (r : PolR) (gen : Nat) (xs : List Int) (φ : BinM → BinM) : (r.bump gen xs φ).sl = r.sl := r.setBlue_sl _ _
@[simp] theorem PolR.count_sl (r : PolR) (class_ : Nat) (f : FlowM) (φ : BinM → BinM) : (r.count class_ f φ).sl = r.sl := by unfold PolR.count; split; rfl; exact r.bump_sl _ _ _
@[simp] theorem PolR.setBlue_tot (r : PolR) (gen : Nat) (bs : List BinM) : (r.setBlue gen bs).tot = r.tot := by unfold PolR.setBlue; split <;> rfl
@[simp] theorem PolR.bump_tot (r : PolR) (gen : Nat) (xs : List Int) (φ : BinM → BinM) : (r.bump gen xs φ).tot = r.tot := r.setBlue_tot _ _
@[simp] theorem PolR.count_tot (r : PolR) (class_ : Nat) (f : FlowM) (φ : BinM → BinM) : (r.count class_ f φ).tot = r.tot := by unfold PolR.count; split; rfl; exact r.bump_tot _ _ _
@[simp] theorem PolR.setBlue_wn (r : PolR) (gen : Nat) (bs : List BinM) : (r.setBlue gen bs).wn = r.wn := by unfold PolR.setBlue; split <;> rfl
@[simp] theorem PolR.bump_wn (r : PolR) (gen : Nat) (xs : List Int) (φ : BinM → BinM) : (r.bump gen xs φ).wn = r.wn := r.setBlue_wn _ _
@[simp] theorem PolR.count_wn (r : PolR) (class_ : Nat) (f : FlowM) (φ : BinM → BinM) : (r.count class_ f φ).wn = r.wn := by unfold PolR.count; split; rfl; exact r.bump_wn _ _ _
@[simp] theorem PolR.setBlue_room (r : PolR) (gen : Nat) (bs : List BinM) : (r.setBlue gen bs).room = r.room := by unfold PolR.setBlue; split <;> rfl
@[simp] theorem PolR.bump_room (r : PolR) (gen : Nat) (xs : List Int) (φ : BinM → BinM) : (r.bump gen xs φ).room = r.room := r.setBlue_room _ _
@[simp] theorem PolR.count_room (r : PolR) (class_ : Nat) (f : FlowM) (φ : BinM → BinM) : (r.count class_ f φ).room = r.room := by unfold PolR.count; split; rfl; exact r.bump_room _ _ _
@[simp] theorem PolR.setBlue_L (r : PolR) (gen : Nat) (bs : List BinM) : (r.setBlue gen bs).L = r.L := by unfold PolR.setBlue; split <;> rfl
@[simp] theorem PolR.bump_L (r : PolR) (gen : Nat) (xs : List Int) (φ : BinM → BinM) : (r.bump gen xs φ).L = r.L := r.setBlue_L _ _
@[simp] theorem PolR.count_L (r : PolR) (class_ : Nat) (f : FlowM) (φ : BinM → BinM) : (r.count class_ f φ).L = r.L := by unfold PolR.count; split; rfl; exact r.bump_L _ _ _
@[simp] theorem PolR.setBlue_n (r : PolR) (gen : Nat) (bs : List BinM) : (r.setBlue gen bs).n = r.n := by unfold PolR.setBlue; split <;> rfl
@[simp] theorem PolR.bump_n (r : PolR) (gen : Nat) (xs : List Int) (φ : BinM → BinM) : (r.bump gen xs φ).n = r.n := r.setBlue_n _ _
@[simp] theorem PolR.count_n (r : PolR) (class_ : Nat) (f : FlowM) (φ : BinM → BinM) : (r.count class_ f φ).n = r.n := by unfold PolR.count; split; rfl; exact r.bump_n _ _ _
structure PolOk (r : PolR) : Prop where
  cl : r.c.length = 20
  rt : rightM r.c
  gok : r.g.Ok
  gb : r.g.buckets = r.c.getD 0 0
  k0 : ∀ y ∈ r.b0, y.Ok
  k1 : ∀ y ∈ r.b1, y.Ok
section
variable {r : PolR}
theorem PolOk.b (h : PolOk r) : 1 ≤ r.c.getD 0 0 ∧ r.c.getD 0 0 ≤ 64 := h.rt 0 (by decide)
theorem PolOk.B1 (h : PolOk r) : 1 ≤ r.B ∧ r.B ≤ 64 := by have := h.b; unfold PolR.B; omega
theorem PolOk.Bc (h : PolOk r) : (r.B : Int) = r.c.getD 0 0 := by have := h.b; unfold PolR.B; omega
theorem PolOk.lv (h : PolOk r) : 1 ≤ r.c.getD 2 0 ∧ r.c.getD 2 0 ≤ 4 := h.rt 2 (by decide)
theorem PolOk.bn (h : PolOk r) : 1 ≤ r.c.getD 3 0 ∧ r.c.getD 3 0 ≤ 64 := h.rt 3 (by decide)
theorem PolOk.setBlue (h : PolOk r) {gen : Nat} {bs : List BinM} (hb : ∀ y ∈ bs, y.Ok) : PolOk (r.setBlue gen bs) := by
  refine ⟨by simpa using h.cl, by simpa using h.rt, by simpa using h.gok, by simpa using h.gb, ?_, ?_⟩
  · unfold PolR.setBlue; split; exact hb; exact h.k0
  · unfold PolR.setBlue; split; exact h.k1; exact hb
theorem PolOk.blue (h : PolOk r) (gen : Nat) : ∀ y ∈ r.blue gen, y.Ok := by unfold PolR.blue; split; exact h.k0; exact h.k1
theorem PolOk.bump (h : PolOk r) {gen : Nat} {xs : List Int} {φ : BinM → BinM} (hφ : ∀ y, y.Ok → (φ y).Ok) : PolOk (r.bump gen xs φ) := h.setBlue (eachM_mem hφ (h.blue gen) _)
theorem PolOk.count (h : PolOk r) {class_ : Nat} {f : FlowM} {φ : BinM → BinM} (hφ : ∀ y, y.Ok → (φ y).Ok) : PolOk (r.count class_ f φ) := by unfold PolR.count; split; exact h; exact h.bump hφ
end
theorem putF_ok (n : Int) (y : BinM) (h : y.Ok) : (putF n y).Ok := h
theorem takeF_ok (n : Int) (y : BinM) (h : y.Ok) : (takeF n y).Ok := h
theorem binsM_ok (r : PolR) (h : PolOk r) (key : List UInt8) (f : FlowM) : BinsOk (blueK r.c) (binsM key f (r.c.getD 2 0) (r.c.getD 3 0)) := by
  have h2 := h.lv
  have h3 := h.bn
  unfold binsM
  constructor
  · rw [List.length_map, List.length_range]
    show _ = (r.c.getD 2 0).toNat
    congr 1
    omega
  · intro x hx
    obtain ⟨l, _, rfl⟩ := List.mem_map.1 hx
    have := fallM_range key f (UInt8.ofNat (l + 1)) (r.c.getD 3 0) h3.1
    show 0 ≤ _ ∧ _ < (((r.c.getD 3 0).toNat : Nat) : Int)
    omega
section
variable {w : World} {a : PolA} {f : Nat → Nat} {r : PolR}
theorem PolMem.cfg (h : PolMem w a f r) (hc : r.c.length = 20) {k : Nat} (hk : k < 20) : w.cell? ⟨a.p, k, none⟩ = some (.int .i64 (r.c.getD k 0)) := by rw [h.pol.cell]; exact pol_cfg hc _ _ _ _ _ _ _ _ _ hk
theorem PolMem.cg (h : PolMem w a f r) (hc : r.c.length = 20) : w.cell? ⟨a.p, 20, none⟩ = some (.pointer (some ⟨a.g, 0, none⟩)) := by rw [h.pol.cell]; exact pol_at hc _ _ _ _ _ _ _ _ _ (20 - 20)
theorem PolMem.cs (h : PolMem w a f r) (hc : r.c.length = 20) : w.cell? ⟨a.p, 21, none⟩ = some (.pointer (some ⟨a.st.s, 0, none⟩)) := by rw [h.pol.cell]; exact pol_at hc _ _ _ _ _ _ _ _ _ (21 - 20)
theorem PolMem.cq (h : PolMem w a f r) (hc : r.c.length = 20) : w.cell? ⟨a.p, 22, none⟩ = some (.pointer (some ⟨a.q, 0, none⟩)) := by rw [h.pol.cell]; exact pol_at hc _ _ _ _ _ _ _ _ _ (22 - 20)
theorem PolMem.ct (h : PolMem w a f r) (hc : r.c.length = 20) : w.cell? ⟨a.p, 23, none⟩ = some (.pointer (some ⟨a.tu.t, 0, none⟩)) := by rw [h.pol.cell]; exact pol_at hc _ _ _ _ _ _ _ _ _ (23 - 20)
theorem PolMem.cx0 (h : PolMem w a f r) (hc : r.c.length = 20) : w.cell? ⟨a.p, 24, none⟩ = some (.pointer (some ⟨a.x0, 0, none⟩)) := by rw [h.pol.cell]; exact pol_at hc _ _ _ _ _ _ _ _ _ (24 - 20)
theorem PolMem.cx1 (h : PolMem w a f r) (hc : r.c.length = 20) : w.cell? ⟨a.p, 25, none⟩ = some (.pointer (some ⟨a.x1, 0, none⟩)) := by rw [h.pol.cell]; exact pol_at hc _ _ _ _ _ _ _ _ _ (25 - 20)
theorem PolMem.cwi (h : PolMem w a f r) (hc : r.c.length = 20) : w.cell? ⟨a.p, 26, none⟩ = some (.pointer (some ⟨a.wi, 0, none⟩)) := by rw [h.pol.cell]; exact pol_at hc _ _ _ _ _ _ _ _ _ (26 - 20)
theorem PolMem.cbx (h : PolMem w a f r) (hc : r.c.length = 20) : w.cell? ⟨a.p, 27, none⟩ = some (.pointer (some ⟨a.bx, 0, none⟩)) := by rw [h.pol.cell]; exact pol_at hc _ _ _ _ _ _ _ _ _ (27 - 20)
theorem PolMem.cn (h : PolMem w a f r) (hc : r.c.length = 20) : w.cell? ⟨a.p, 28, none⟩ = some (.int .i64 r.n) := by rw [h.pol.cell]; exact pol_at hc _ _ _ _ _ _ _ _ _ (28 - 20)
def PolA.x (a : PolA) (gen : Nat) : Nat := if gen = 0 then a.x0 else a.x1
def PolA.y (a : PolA) (gen : Nat) : Nat := if gen = 0 then a.y0 else a.y1
theorem PolMem.cx (h : PolMem w a f r) (hc : r.c.length = 20) {gen : Nat} (hg : gen < 2) : w.cell? ⟨a.p, 24 + gen, none⟩ = some (.pointer (some ⟨a.x gen, 0, none⟩)) := by
  have : gen = 0 ∨ gen = 1 := by omega
  rcases this with rfl | rfl
  · exact h.cx0 hc
  · exact h.cx1 hc
theorem PolMem.bl (h : PolMem w a f r) {gen : Nat} (hg : gen < 2) : BlueW w (a.x gen) (a.y gen) (blueK r.c) (r.blue gen) := by
  have : gen = 0 ∨ gen = 1 := by omega
  rcases this with rfl | rfl
  · exact h.b0
  · exact h.b1
theorem PolMem.setB {w' : World} (h : PolMem w a f r) {gen : Nat} (hg : gen < 2) {bs : List BinM} (hm : But (a.y gen) w w') (hn : BlueW w' (a.x gen) (a.y gen) (blueK r.c) bs) : PolMem w' a f (r.setBlue gen bs) ∧ Mod (own f) w w' := by
  have : gen = 0 ∨ gen = 1 := by omega
  rcases this with rfl | rfl
  · exact ⟨h.setB0 hm hn, hm.mono fun k _ hk => by rw [show k = a.y0 from hk]; show f a.y0 ≠ 0; rw [h.tag.b0 _ (.inr rfl)]; decide⟩
  · exact ⟨h.setB1 hm hn, hm.mono fun k _ hk => by rw [show k = a.y1 from hk]; show f a.y1 ≠ 0; rw [h.tag.b1 _ (.inr rfl)]; decide⟩
end
theorem police_penalty (w : World) (a : PolA) (f : Nat → Nat) (r : PolR) (h : PolMem w a f r) (ho : PolOk r) :
    Ret Tryz.prog 57 #[.pointer (some ⟨a.p, 0, none⟩)] w fun v w' => v = .int .i64 r.pen ∧ w' = w := by
  refine ret_of Tryz.func57 rfl (by kernel_rfl) (Nat.le_of_ble_eq_true (by kernel_rfl)) ?_
  have hb := ho.b
  have hB := ho.Bc
  have e1 : IntKind.i64.wrap (2 * r.c.getD 0 0) = (r.pen : Int) := by unfold PolR.pen; rw [w64 (by omega) (by omega)]; omega
  simp -implicitDefEqProofs (maxSteps := 1000000) only [↓zvN, zvU, ↓zvE, zvM, init, one, Value.cells, simprocAttr, tyF, h.cfg ho.cl (k := 0) (by decide), e1]
  rfl
def IntsF (B : Nat) (xs : List Int) (v : Value) (w : World) : Prop := ∃ A c, v = .slice A xs.length c ∧ Cs w A (ints xs) ∧ ∀ a, A = some a → B ≤ a.block
theorem keepsI (B : Nat) (xs : List Int) (v : Value) (x y : World) (h : More x y) (k : IntsF B xs v x) : IntsF B xs v y := by
  obtain ⟨A, c, h1, h2, h3⟩ := k
  exact ⟨A, c, h1, h2.more h, h3⟩
theorem police_bins (w : World) (a : PolA) (f : Nat → Nat) (r : PolR) (h : PolMem w a f r) (ho : PolOk r) (gen : Nat) (hg : r.g.live gen) (fl : FlowM) (hf : fl.Fit) :
    Ret Tryz.prog 64 #[.pointer (some ⟨a.p, 0, none⟩), .int .i64 gen, .agg fl.cells.toArray] w fun v w' => IntsF w.heap.size (r.bins gen fl) v w' ∧ More w w' := by
  refine ret_of Tryz.func64 rfl (by kernel_rfl) (Nat.le_of_ble_eq_true (by kernel_rfl)) ?_
  have hm1 := more_alloc w (.cells fl.cells.toArray 34)
  have hb1 := Blk.new w 34 fl.cells.toArray
  simp -implicitDefEqProofs (maxSteps := 1000000) only [↓zvN, zvU, ↓zvE, zvM, init, one, Value.cells, simprocAttr, tyF]
  obtain ⟨w1, hw1⟩ : ∃ w1, w.alloc (.cells fl.cells.toArray 34) = w1 := ⟨_, rfl⟩
  rw [hw1] at hm1 hb1 ⊢
  clear hw1
  rw [List.toList_toArray] at hb1
  obtain ⟨z, hz⟩ : ∃ z, w.heap.size = z := ⟨_, rfl⟩
  rw [hz] at hb1 ⊢
  have h1 := h.more hm1
  have lf := hb1.all_eq 36 (FlowM.cells_len hf)
  have lz := hb1.lt
  have lp := h1.pol.lt
  refine draw_seen 16 [[], [0], [0, 1], [0, 1, 2], [], [], [], [6], [6, 7], [6, 7, 8], [6, 7, 8, 9], [], [11], [11, 12], [11, 12, 13], [11, 12, 13, 14], [0, 1, 2, 3, 4, 5, 6, 7, 8, 9, 10, 11, 12, 13, 14, 15], [0, 1, 2, 3, 4, 5, 6, 7, 8, 9, 10, 11, 12, 13, 14, 15, 16]] (RV.look []) mixed (by kernel_rfl) (by kernel_rfl) (look_keeps _ (by simp)) ?_
  simp -implicitDefEqProofs (maxSteps := 1000000) only [↓zvN, zvU, ↓zqD, ↓zvE, zvM, init, one, Value.cells, simprocAttr, tyF, h1.cg ho.cl, lf, h1.cfg ho.cl (k := 2) (by decide), h1.cfg ho.cl (k := 3) (by decide), lz, lp]
  intro w2 hm2
  try simp -implicitDefEqProofs (maxSteps := 1000000) only [↓zvN, zvU, ↓zvE, zvM, init, one, Value.cells, simprocAttr, tyF, p_nil]
  refine call_ok Tryz.call153 (gens_bins w2 a.g r.g ho.gok (h1.gens.more hm2) gen hg fl hf (r.c.getD 2 0) (r.c.getD 3 0) (by have := ho.bn; omega) ho.lv) ?_
  rintro _ w3 ⟨A, c, rfl, hA, hAg, hm3⟩
  simp -implicitDefEqProofs (maxSteps := 1000000) only [↓zvN, zvU, ↓zvE, zvM, init, one, Value.cells, simprocAttr, tyF]
  exact ⟨⟨A, c, rfl, hA, fun x hx => by have := hAg x hx; have := hm1.size; have := hm2.size; omega⟩, (hm1.trans hm2).trans hm3⟩
end Go.Proofs.YtofhbonnojooeaaGreat

