/-
  Texts that the law stands on, part 18.
-/
import Derived.Test.YtofhbonnojooeaaGreatKPoliceBoxed17
import Derived.Shelf.SlSortCmp.NoneTotal
import Derived.Test.YtofhbonnojooeaaGreatRows
namespace Go.Proofs.YtofhbonnojooeaaGreat
open Go Go.Shelf Go.RowKit
def sortPref_ren : Go.Shelf.Ren := ⟨fun | 6 => 207 | 15 => 229 | 14 => 228 | 28 => 246 | 29 => 247 | 20 => 238 | 21 => 239 | 22 => 240 | 23 => 241 | 24 => 242 | 25 => 243 | 26 => 244 | 27 => 245 | 46 => 253 | 47 => 254 | 48 => 255 | 49 => 256 | 50 => 257 | 57 => 263 | n => n, fun | 22 => 48 | 24 => 37 | 25 => 350 | 3 => 3 | 39 => 339 | 0 => 0 | 53 => 382 | 55 => 40 | 4 => 4 | 46 => 376 | 45 => 375 | 50 => 103 | 5 => 5 | 9 => 9 | 66 => 388 | 70 => 392 | 76 => 401 | 77 => 175 | n => n, fun | n => n⟩
theorem sortPref : Go.Proofs.SlLaysF0.n6 Tryz.prog sortPref_ren := {
  mixed := by kernel_rfl
  f6 := ⟨Tryz.f207.name, by decide, Tryz.func207.trans (congrArg some (by kernel_rfl))⟩
  f14 := ⟨Tryz.f228.name, by decide, Tryz.func228.trans (congrArg some (by kernel_rfl))⟩
  f15 := Tryz.func229.trans (congrArg some (by kernel_rfl))
  f20 := ⟨Tryz.f238.name, by decide, Tryz.func238.trans (congrArg some (by kernel_rfl))⟩
  f21 := ⟨Tryz.f239.name, by decide, Tryz.func239.trans (congrArg some (by kernel_rfl))⟩
  f22 := ⟨Tryz.f240.name, by decide, Tryz.func240.trans (congrArg some (by kernel_rfl))⟩
  f23 := ⟨Tryz.f241.name, by decide, Tryz.func241.trans (congrArg some (by kernel_rfl))⟩
  f24 := ⟨Tryz.f242.name, by decide, Tryz.func242.trans (congrArg some (by kernel_rfl))⟩
  f25 := ⟨Tryz.f243.name, by decide, Tryz.func243.trans (congrArg some (by kernel_rfl))⟩
  f26 := ⟨Tryz.f244.name, by decide, Tryz.func244.trans (congrArg some (by kernel_rfl))⟩
  f27 := ⟨Tryz.f245.name, by decide, Tryz.func245.trans (congrArg some (by kernel_rfl))⟩
  f28 := Tryz.func246.trans (congrArg some (by kernel_rfl))
  f29 := Tryz.func247.trans (congrArg some (by kernel_rfl))
  f46 := ⟨Tryz.f253.name, by decide, Tryz.func253.trans (congrArg some (by kernel_rfl))⟩
  f47 := Tryz.func254.trans (congrArg some (by kernel_rfl))
  f48 := Tryz.func255.trans (congrArg some (by kernel_rfl))
  f49 := ⟨Tryz.f256.name, by decide, Tryz.func256.trans (congrArg some (by kernel_rfl))⟩
  f50 := ⟨Tryz.f257.name, by decide, Tryz.func257.trans (congrArg some (by kernel_rfl))⟩
  f57 := ⟨Tryz.f263.name, by decide, Tryz.func263.trans (congrArg some (by kernel_rfl))⟩
  t0 := Tryz.underlying0
  a0 := Tryz.isAgg0
  z0 := Tryz.sizeOf0
  v0 := Tryz.zeroValue0
  t3 := Tryz.underlying3
  a3 := Tryz.isAgg3
  z3 := Tryz.sizeOf3
  v3 := Tryz.zeroValue3
  t4 := Tryz.underlying4
  a4 := Tryz.isAgg4
  z4 := Tryz.sizeOf4
  v4 := Tryz.zeroValue4
  t5 := Tryz.underlying5
  a5 := Tryz.isAgg5
  z5 := Tryz.sizeOf5
  v5 := Tryz.zeroValue5
  t9 := Tryz.underlying9
  a9 := Tryz.isAgg9
  z9 := Tryz.sizeOf9
  v9 := Tryz.zeroValue9
  t22 := Tryz.underlying48
  a22 := Tryz.isAgg48
  z22 := Tryz.sizeOf48
  v22 := Tryz.zeroValue48
  t25 := Tryz.underlying350
  a25 := Tryz.isAgg350
  z25 := Tryz.sizeOf350
  v25 := Tryz.zeroValue350
  t39 := Tryz.underlying339
  a39 := Tryz.isAgg339
  z39 := Tryz.sizeOf339
  v39 := Tryz.zeroValue339
  t45 := Tryz.underlying375
  a45 := Tryz.isAgg375
  z45 := Tryz.sizeOf375
  v45 := Tryz.zeroValue375
  t46 := Tryz.underlying376
  a46 := Tryz.isAgg376
  z46 := Tryz.sizeOf376
  v46 := Tryz.zeroValue376
  t50 := Tryz.underlying103
  a50 := Tryz.isAgg103
  z50 := Tryz.sizeOf103
  v50 := Tryz.zeroValue103
  t53 := Tryz.underlying382
  a53 := Tryz.isAgg382
  z53 := Tryz.sizeOf382
  v53 := Tryz.zeroValue382
  t55 := Tryz.underlying40
  a55 := Tryz.isAgg40
  z55 := Tryz.sizeOf40
  v55 := Tryz.zeroValue40
  t66 := Tryz.underlying388
  a66 := Tryz.isAgg388
  z66 := Tryz.sizeOf388
  v66 := Tryz.zeroValue388
  t70 := Tryz.underlying392
  a70 := Tryz.isAgg392
  z70 := Tryz.sizeOf392
  v70 := Tryz.zeroValue392
  t76 := Tryz.underlying401
  a76 := Tryz.isAgg401
  z76 := Tryz.sizeOf401
  v76 := Tryz.zeroValue401
  t77 := Tryz.underlying175
  a77 := Tryz.isAgg175
  z77 := Tryz.sizeOf175
  v77 := Tryz.zeroValue175 }
end Go.Proofs.YtofhbonnojooeaaGreat
namespace Go.Proofs.YtofhbonnojooeaaGreat
open Go Go.RowKit Go.Proofs.RV
set_option linter.unusedSimpArgs false
set_option linter.unusedVariables false
set_option maxRecDepth 10000
set_option maxHeartbeats 4000000
theorem table_cmp_box (w : World) (p q : PrefM) (hp : p.addr.length = 7) (hq : q.addr.length = 7) : Ret Tryz.prog 208 #[.agg p.cells.toArray, .agg q.cells.toArray] w fun v w' => v = .int .i64 (Lib.compareBytes (pkey p) (pkey q)) ∧ MoreD w w' := by
  refine ret_of Tryz.func208 rfl (by kernel_rfl) (Nat.le_of_ble_eq_true (by kernel_rfl)) ?_
  have hm1 := MoreD.alloc w (.cells p.cells.toArray 37)
  have hb1 := Blk.new w 37 p.cells.toArray
  have s1 := size_alloc w (.cells p.cells.toArray 37)
  simp -implicitDefEqProofs (maxSteps := 1000000) only [↓zvN, zvU, ↓zvE, zvM, init, one, Value.cells, simprocAttr, tyF]
  have hsz := s1
  generalize w.alloc (.cells p.cells.toArray 37) = w1 at hm1 hb1 s1 ⊢
  have hm2 := MoreD.alloc w1 (.cells q.cells.toArray 37)
  have hb2 := Blk.new w1 37 q.cells.toArray
  generalize w1.alloc (.cells q.cells.toArray 37) = w2 at hm2 hb2 ⊢
  rw [s1] at hb2
  rw [List.toList_toArray] at hb1 hb2
  have hcl : ∀ {x : PrefM}, x.addr.length = 7 → x.cells.length = 8 := fun h => by simp [PrefM.cells, h]
  have v1 := (hb1.more hm2.1).all_eq 8 (hcl hp)
  have v2 := hb2.all_eq 8 (hcl hq)
  have k1 := pkey_len hp
  have k2 := pkey_len hq
  refine draw_name fun K hK => ?_
  refine draw_seenD 3 [[], [0], [], [0, 1, 2], [0, 1, 2, 3], [0, 1, 2, 3, 4]] [(1, RV.BsF (pkey p))] mixed (by kernel_rfl) (by kernel_rfl) (by simp; exact keepsBD _) ?_
  simp -implicitDefEqProofs (maxSteps := 1000000) only [↓zvD, zvU, ↓zqD, ↓zvE, zvM, init, one, Value.cells, simprocAttr, tyF, hsz, s1, v1, v2]
  refine ⟨fun w3 hm3 => call_ok Tryz.call210 (table_bytesOf w3 p hp) ?_, ?_⟩
  · rintro _ w4 ⟨g, c, rfl, hg, hB, hc, hm4⟩
    simp -implicitDefEqProofs (maxSteps := 1000000) only [↓zvD, zvU, ↓zqD, ↓zvE, zvM, init, one, Value.cells, simprocAttr]
    exact ⟨hm4, some ⟨g, 0, none⟩, c, by rw [k1], hB⟩
  rintro _ ⟨w3, hm3, A3, c3, rfl, _⟩
  simp -implicitDefEqProofs (maxSteps := 1000000) only [↓zvD, zvU, ↓zqD, ↓zvE, zvM, init, one, Value.cells, simprocAttr, tyF, hsz, s1, v1, v2]
  intro w4 hm4 hB4
  obtain ⟨A3', c3', e, hB4⟩ := hB4
  cases e
  have v2 := (hb2.more hm4.1).all_eq 8 (hcl hq)
  try simp -implicitDefEqProofs (maxSteps := 1000000) only [↓zvD, zvU, ↓zqD, ↓zvE, zvM, init, one, Value.cells, simprocAttr, tyF, v2]
  refine call_ok Tryz.call210 (table_bytesOf w4 q hq) ?_
  rintro _ w5 ⟨g5, c5, rfl, hg5, hB5, hc5, hm5⟩
  simp -implicitDefEqProofs (maxSteps := 1000000) only [↓zvD, zvU, ↓zvE, zvM, init, one, Value.cells, simprocAttr, tyF, p_nil]
  have hcc := bytes_compare w5 A3 (pkey p) c3 (some ⟨g5, 0, none⟩) (pkey q) c5 (hB4.more hm5.1) hB5
  rw [k2] at hcc
  refine call_ok Tryz.call209 hcc ?_
  rintro _ w6 ⟨rfl, rfl⟩
  simp -implicitDefEqProofs (maxSteps := 1000000) only [↓zvD, zvU, ↓zvE, zvM, init, one, Value.cells, simprocAttr, tyF, p_nil]
  refine hK _ _ ?_
  simp -implicitDefEqProofs (maxSteps := 1000000) only [↓zvD, zvU, ↓zvE, zvM, init, one, Value.cells, simprocAttr, tyF, p_nil]
  exact ⟨rfl, ((hm1.trans hm2).trans hm4).trans hm5⟩
abbrev Pfx := {p : PrefM // p.addr.length = 7}
instance : Inhabited Pfx := ⟨⟨prefZ, rfl⟩⟩
def cfP (x y : Pfx) : Int := Lib.compareBytes (pkey x.1) (pkey y.1)
theorem ltP (x y : Pfx) : ltOf cfP x y = decide (plt x.1 y.1) := rfl
theorem swoP : Sort.SWO (ltOf cfP) where
  irrefl x := by rw [ltP]; exact decide_eq_false (plt_irrefl _)
  trans x y z h1 h2 := by
    rw [ltP] at *
    exact decide_eq_true (plt_trans (of_decide_eq_true h1) (of_decide_eq_true h2))
  ntrans x y z h1 h2 := by
    rw [ltP] at *
    have h1 := of_decide_eq_false h1
    have h2 := of_decide_eq_false h2
    refine decide_eq_false fun h3 => ?_
    by_cases e : x.1 = y.1
    · rw [e] at h3; exact h2 h3
    · by_cases e2 : y.1 = z.1
      · rw [← e2] at h3; exact h1 h3
      · have h4 : plt y.1 x.1 := by
          rcases Classical.em (plt y.1 x.1) with h | h
          · exact h
          · exact absurd ((plt_total e).2 h) h1
        have h5 : plt z.1 y.1 := by
          rcases Classical.em (plt z.1 y.1) with h | h
          · exact h
          · exact absurd ((plt_total e2).2 h) h2
        exact plt_irrefl _ (plt_trans h3 (plt_trans h5 h4))
theorem totP (x y : Pfx) (h1 : ltOf cfP x y = false) (h2 : ltOf cfP y x = false) : x = y := by
  rw [ltP] at *
  have h1 := of_decide_eq_false h1
  have h2 := of_decide_eq_false h2
  apply Subtype.ext
  rcases Classical.em (x.1 = y.1) with h | h
  · exact h
  · exact absurd ((plt_total h).2 h2) h1
theorem moreD_grow {a b : World} (h : MoreD a b) : ∃ q os', b = Sort.grow (a.drewN q) os' := by
  refine ⟨b.drawn - a.drawn, b.heap.extract a.heap.size b.heap.size, ?_⟩
  obtain ⟨⟨h1, h2, h3, h4, h5⟩, h6⟩ := h
  have hh : b.heap = a.heap ++ b.heap.extract a.heap.size b.heap.size := by
    apply Array.ext_getElem?
    intro i
    rcases Nat.lt_or_ge i a.heap.size with h | h
    · rw [Array.getElem?_append_left h, h5 i h]
    · rw [Array.getElem?_append_right h, Array.getElem?_extract]
      split
      · congr 1; omega
      · rw [Array.getElem?_eq_none (by omega)]
  obtain ⟨bh, bt, bd, bo, bu⟩ := b
  simp only at h1 h2 h3 h6 hh
  unfold Sort.grow World.drewN
  simp only [World.mk.injEq]
  exact ⟨hh, h2, by omega, h1, h3⟩
theorem flat_get (ds : List Pfx) : Sort.flatK (fun x : Pfx => x.1.cells) 8 ds.toArray = ((ds.map Subtype.val).flatMap PrefM.cells).toArray := by
  have hl : ∀ m ∈ ds.map Subtype.val, (PrefM.cells m).length = 8 := by
    intro m hm
    obtain ⟨x, _, rfl⟩ := List.mem_map.1 hm
    simp [PrefM.cells, x.2]
  have hln : ((ds.map Subtype.val).flatMap PrefM.cells).length = ds.length * 8 := by rw [row_len _ hl, List.length_map]
  apply Array.ext
  · rw [Sort.size_flatK, List.size_toArray, List.size_toArray, hln]
  · intro i h1 h2
    have h : i < ds.length * 8 := by simpa using h1
    have hq : i / 8 < ds.length := by omega
    have r := row_cell _ hl (i / 8) (ds[i / 8]).1 (i % 8) (by rw [List.getElem?_map, List.getElem?_eq_getElem hq]; rfl) (by omega)
    rw [show i / 8 * 8 + i % 8 = i by omega] at r
    have h8 : (PrefM.cells (ds[i / 8]).1).length = 8 := by simp [PrefM.cells, (ds[i / 8]).2]
    have g := Sort.get_flatK (fun x : Pfx => x.1.cells) 8 ds.toArray i (by simpa using h)
    have e : ds.toArray[i / 8]! = ds[i / 8] := by rw [getElem!_pos ds.toArray (i / 8) (by simpa using hq)]; rfl
    rw [getElem!_pos _ i h1, e] at g
    rw [g]
    rw [getElem!_pos _ (i % 8) (by omega), List.getElem_toArray]
    rw [List.getElem?_eq_getElem (by omega), List.getElem?_eq_getElem (by omega)] at r
    exact (Option.some.inj r).symm
theorem sort_prefs (g : FuncId) (eg : ∀ args w, (callFunc g args).run Tryz.prog w = .ok (.enter g args) w) (hcmp : ∀ (w : World) (p q : PrefM), p.addr.length = 7 → q.addr.length = 7 → Ret Tryz.prog g #[.agg p.cells.toArray, .agg q.cells.toArray] w fun v w' => v = .int .i64 (Lib.compareBytes (pkey p) (pkey q)) ∧ MoreD w w')
    (w : World) (b c : Nat) (ps : List PrefM) (hps : ∀ p ∈ ps, p.addr.length = 7) (hl : ps.length ≤ 1000000) (hlt : b < w.heap.size) (hb : ∀ j v, (ps.flatMap PrefM.cells)[j]? = some v → w.cell? ⟨b, j, none⟩ = some v ∧ w.frozen? ⟨b, j, none⟩ = false) :
    Ret Tryz.prog 207 #[.slice (some ⟨b, 0, none⟩) ps.length c, .func (.func g) #[] #[]] w fun v w' => v = .tuple #[] ∧ ∃ rs : List PrefM, rs.Perm ps ∧ rs.Pairwise (fun x y => ¬ plt y x) ∧ Cs w' (some ⟨b, 0, none⟩) (rs.flatMap PrefM.cells) ∧ But b w w' := by
  obtain ⟨ds, hds⟩ : ∃ ds : List Pfx, ds.map Subtype.val = ps := ⟨ps.pmap (fun p h => ⟨p, h⟩) hps, by simp [List.map_pmap]⟩
  have hlen : ds.toArray.size = ps.length := by rw [← hds]; simp
  have hfl : Sort.flatK (fun x : Pfx => x.1.cells) 8 ds.toArray = (ps.flatMap PrefM.cells).toArray := by rw [flat_get, hds]
  have hH : Sort.HoldsK (fun x : Pfx => x.1.cells) 8 w b 0 ds.toArray := by
    unfold Sort.HoldsK
    rw [hfl]
    intro j hj
    have hj' : j < (ps.flatMap PrefM.cells).length := by simpa using hj
    have := hb j _ (List.getElem?_eq_getElem hj')
    rw [Nat.zero_add]
    refine ⟨?_, this.2⟩
    rw [this.1, getElem!_pos _ j hj]
    rfl
  have hC : CmpLays Tryz.prog g #[] (fun x : Pfx => x.1.cells) 8 cfP b 0 ds.toArray.size w := by
    intro m os dk _ x y
    refine Calls.mono (hcmp _ x.1 y.1 x.2 y.2) ?_
    rintro e w' ⟨v, rfl, rfl, hm⟩
    exact ⟨rfl, moreD_grow hm⟩
  have hS := AnyQ.slices_SortFunc_total sortPref 8 Tryz.isAgg37 Tryz.sizeOf37 (fun x : Pfx => x.1.cells) (fun x => by simp [PrefM.cells, x.2]) (fun x v hv => PrefM.one _ v hv) cfP swoP g #[] b 0 c ds.toArray w eg hC hH hlt (by omega) totP
  change Calls Tryz.prog 207 _ _ _ at hS
  rw [hlen] at hS
  refine Calls.mono hS ?_
  rintro e w' ⟨rfl, n, os, rfl⟩
  refine ⟨_, rfl, rfl, (ds.mergeSort fun x y => !ltOf cfP y x).map Subtype.val, ?_, ?_, ?_, ?_⟩
  · rw [← hds]
    exact (List.mergeSort_perm _ _).map _
  · rw [List.pairwise_map]
    have := List.pairwise_mergeSort (le := fun x y => !ltOf cfP y x) (fun a b c h1 h2 => by
      simp only [Bool.not_eq_true'] at *
      exact swoP.ntrans _ _ _ h2 h1) (fun a b => by
      simp only [ltP]
      rcases Classical.em (plt b.1 a.1) with h | h
      · have : ¬ plt a.1 b.1 := fun h2 => plt_irrefl _ (plt_trans h h2)
        simp [this]
      · simp [h]) ds
    refine this.imp ?_
    intro a b h
    rw [ltP] at h
    simpa using h
  · have h2 := holdsK_sortWorldK_c (fun x : Pfx => x.1.cells) 8 w b 0 ds.toArray (ds.mergeSort fun x y => !ltOf cfP y x).toArray n os hH hlt (by simp)
    unfold Sort.HoldsK at h2
    rw [flat_get] at h2
    intro i v hi
    have hil := (List.getElem?_eq_some_iff.1 hi).1
    refine ⟨_, rfl, ?_⟩
    have h3 := (h2 i (by simpa using hil)).1
    rw [add_mk]
    rw [getElem!_pos _ i (by simpa using hil), List.getElem_toArray] at h3
    rw [List.getElem?_eq_getElem hil] at hi
    rw [← Option.some.inj hi]
    exact h3
  · refine ⟨rfl, rfl, rfl, ?_, fun k hk hn => ?_⟩
    · simp [sortWorldK, Sort.grow, Sort.putRowK, Sort.putRow, Sort.mapBlock, Sort.ahead]
    · have hn' : ¬ b = k := fun e => hn e.symm
      simp only [sortWorldK, Sort.grow, Sort.putRowK, Sort.putRow, Sort.mapBlock, Sort.ahead]
      rw [Array.getElem?_append_left (by simpa using hk), Array.getElem?_modify, if_neg hn']
theorem prefE : ElemT Tryz.prog 37 (.agg prefZ.cells.toArray) 8 8 := by unfold ElemT; kernel_rfl
def takenM (ls : List PlaceM) : List PrefM := (ls.filter (·.state = 1)).map PlaceM.p
theorem taken_step {ls : List PlaceM} {k : Nat} {y : PlaceM} (hy : ls[k]? = some y) : takenM (ls.take (k + 1)) = takenM (ls.take k) ++ if y.state = 1 then [y.p] else [] := by
  unfold takenM
  rw [List.take_add_one, hy, List.filter_append, List.map_append]
  congr 1
  simp only [Option.toList_some, List.filter_cons, List.filter_nil]
  by_cases h : y.state = 1 <;> simp [h]
theorem taken_le (ls : List PlaceM) (k : Nat) : (takenM (ls.take k)).length ≤ k := by
  unfold takenM
  rw [List.length_map]
  exact Nat.le_trans (List.length_filter_le _ _) (by rw [List.length_take]; omega)
theorem taken_ok {s : Nat} {ls : List PlaceM} (h : TabOk s ls) : ∀ p ∈ takenM ls, p.addr.length = 7 := by
  intro p hp
  obtain ⟨y, hy, rfl⟩ := List.mem_map.1 hp
  exact (h y (List.mem_filter.1 hy).1).pre
def AllJ (ls : List PlaceM) (w : World) (v3 v13 : Value) (w' : World) : Prop :=
  ∃ (k : Nat) (A : Option Addr) (c : Nat), v13 = .int .i64 k ∧ k ≤ ls.length ∧ v3 = .slice A (takenM (ls.take k)).length c ∧ Own w' w.heap.size 37 8 A (takenM (ls.take k)).length c ((takenM (ls.take k)).flatMap PrefM.cells) ∧ More w w'
def AllR (ls : List PlaceM) (w : World) (v : Value) (w' : World) : Prop :=
  ∃ (A : Option Addr) (c : Nat) (rs : List PrefM), v = .slice A rs.length c ∧ rs.Perm (takenM ls) ∧ rs.Pairwise (fun x y => ¬ plt y x) ∧ Cs w' A (rs.flatMap PrefM.cells) ∧ (∀ a, A = some a → w.heap.size ≤ a.block) ∧ More w w'
theorem table_all_box (w : World) (b t : Nat) (ls : List PlaceM) (room n : Nat) (hT : TabW w 338 344 11 b t ls room n) :
    Ret Tryz.prog 146 #[.pointer (some ⟨t, 0, none⟩)] w (AllR ls w) := by
  refine ret_of Tryz.func146 rfl (by kernel_rfl) (Nat.le_of_ble_eq_true (by kernel_rfl)) ?_
  have c0 := hT.tab.cell 0
  simp only [List.getElem?_cons_zero] at c0
  have hlen := hT.le
  simp -implicitDefEqProofs (maxSteps := 1000000) only [↓zvN, zvU, ↓zvE, zvM, init, one, Value.cells, simprocAttr, tyF, c0]
  refine loop_p (3 :: 5 :: List.range' 13 13) (fun e w' => AllJ ls w (e 3) (e 13) w') (fun e _ => ls.length - (numOf (e 13)).toNat) ?_ ?_
  · exact ⟨0, none, 0, by simp only [hv_apply, up_apply, upO_some, upO_none, init, List.mem_cons, List.mem_range'_1, true_and, and_true, and_false, false_and, Nat.reduceLT, Nat.reduceLeDiff, Nat.reduceAdd, true_or, or_true, if_true, if_false, ↓reduceIte, Nat.reduceEqDiff, false_or, or_false, List.not_mem_nil, List.getElem?_cons_zero, List.getElem?_cons_succ, Option.getD_some] <;> rfl, by omega, by simp only [hv_apply, up_apply, upO_some, upO_none, init, List.mem_cons, List.mem_range'_1, true_and, and_true, and_false, false_and, Nat.reduceLT, Nat.reduceLeDiff, Nat.reduceAdd, true_or, or_true, if_true, if_false, ↓reduceIte, Nat.reduceEqDiff, false_or, or_false, List.not_mem_nil, List.getElem?_cons_zero, List.getElem?_cons_succ, Option.getD_some] <;> rfl, Own.nil _ _ _ _, More.refl _⟩
  rintro v w2 ⟨k, A2, c2, h13, hk, h3, ho2, hm2⟩
  simp only [hv_apply, up_apply, upO_some, upO_none, init, List.mem_cons, List.mem_range'_1, true_and, and_true, and_false, false_and, Nat.reduceLT, Nat.reduceLeDiff, Nat.reduceAdd, true_or, or_true, if_true, if_false, ↓reduceIte, Nat.reduceEqDiff, false_or, or_false, List.not_mem_nil, List.getElem?_cons_zero, List.getElem?_cons_succ, Option.getD_some] at h13 h3
  have ek : IntKind.i64.wrap ((k : Int) + 1) = ((k + 1 : Nat) : Int) := w64 (by omega) (by omega)
  simp -implicitDefEqProofs (maxSteps := 1000000) only [↓zvN, zvU, ↓zvE, zvM, init, one, Value.cells, simprocAttr, tyF, h13, h3]
  refine ⟨fun h9 => ?_, fun h9 => ?_⟩
  rotate_left
  · obtain rfl : k = ls.length := by omega
    rw [List.take_length] at ho2
    simp only [List.take_length]
    obtain ⟨ps, hps⟩ : ∃ ps, takenM ls = ps := ⟨_, rfl⟩
    have hpo := taken_ok hT.ok
    have hpl := taken_le ls ls.length
    rw [List.take_length] at hpl
    unfold AllR
    rw [hps] at ho2 hpo hpl ⊢
    rw [List.take_length, hps] at h3
    have fin : ∀ w3, (∃ rs : List PrefM, rs.Perm ps ∧ rs.Pairwise (fun x y => ¬ plt y x) ∧ Cs w3 A2 (rs.flatMap PrefM.cells)) ∧ More w w3 → ∃ (A : Option Addr) (c : Nat) (rs : List PrefM), Value.slice A2 ps.length c2 = .slice A rs.length c ∧ rs.Perm ps ∧ rs.Pairwise (fun x y => ¬ plt y x) ∧ Cs w3 A (rs.flatMap PrefM.cells) ∧ (∀ a, A = some a → w.heap.size ≤ a.block) ∧ More w w3 := by
      rintro w3 ⟨⟨rs, h1, h2, h3⟩, h4⟩
      exact ⟨A2, c2, rs, by rw [h1.length_eq], h1, h2, h3, fun a ha => (ho2.atB_ge ⟨a, ha, rfl⟩).1, h4⟩
    rcases ho2.blk with ⟨hA, hn0⟩ | ⟨g, hA, hgB, hgl, cur, hgb⟩
    · have hnil : ps = [] := List.eq_nil_of_length_eq_zero hn0
      have hS := AnyF.slices_SortFunc_none (P := Tryz.prog) sortPref A2 c2 (.func (.func 208) #[] #[]) w2
      change Calls Tryz.prog 207 _ _ _ at hS
      refine call_ok (R := fun v w' => v = .tuple #[] ∧ w' = w2) Tryz.call207 (by rw [hn0]; exact Calls.mono hS fun e w' ⟨h1, h2⟩ => ⟨_, h1, rfl, h2⟩) ?_
      rintro _ w3 ⟨rfl, rfl⟩
      simp -implicitDefEqProofs (maxSteps := 1000000) only [↓zvN, zvU, ↓zvE, zvM, init, one, Value.cells, simprocAttr, tyF, h3]
      exact fin w3 ⟨⟨ps, List.Perm.refl _, by rw [hnil]; exact List.Pairwise.nil, ho2.cs⟩, hm2⟩
    · subst hA
      have hcs := ho2.cs
      refine call_ok Tryz.call207 (sort_prefs _ Tryz.call208 table_cmp_box w2 g c2 ps hpo (by omega) hgl (fun j v hj => by
        obtain ⟨a, ha, hc⟩ := hcs j v hj
        cases ha
        rw [add_mk, Nat.zero_add] at hc
        exact ⟨hc, hgb.frozen j⟩)) ?_
      rintro _ w3 ⟨rfl, rs, h1, h2, h4, h5⟩
      simp -implicitDefEqProofs (maxSteps := 1000000) only [↓zvN, zvU, ↓zvE, zvM, init, one, Value.cells, simprocAttr, tyF, h3]
      exact fin w3 ⟨⟨rs, h1, h2, h4⟩, more_but hm2 h5 hgB⟩
  have hil : k < ls.length := by omega
  obtain ⟨y, hy⟩ := row_nat ls k hil
  have hT2 := hT.more hm2
  have hyo := hT.ok y (List.mem_of_getElem? hy)
  have vrow := blk_elem hT2.row hT.ok.lens hy
  have g0 : (0 : Int) ≤ (k : Int) := by omega
  simp -implicitDefEqProofs (maxSteps := 1000000) only [↓zvN, zvU, ↓zvE, zvM, init, one, Value.cells, simprocAttr, tyF, h13, h3, g0, h9, hil, vrow, Int.toNat_natCast, zerPlace_box]
  have hm7 := more_alloc w2 (.cells (PlaceM.mk 0 prefZ [.int .i64 0, .pointer none]).cells.toArray 344)
  have hb7 := Blk.new w2 344 (PlaceM.mk 0 prefZ [.int .i64 0, .pointer none]).cells.toArray
  obtain ⟨w7, hw7⟩ : ∃ w7, w2.alloc (.cells (PlaceM.mk 0 prefZ [.int .i64 0, .pointer none]).cells.toArray 344) = w7 := ⟨_, rfl⟩
  rw [hw7] at hm7 hb7 ⊢
  clear hw7
  refine st_all hb7 (by simpa using hyo.len) (by rfl) (by simpa using hyo.ones) fun w8 j1 j2 => ?_
  rw [List.toList_toArray] at j2
  have hm8 : More w2 w8 := more_but hm7 (But.of_wr j1) (Nat.le_refl _)
  have hm18 := hm2.trans hm8
  obtain ⟨qb, hqb⟩ : ∃ q, w2.heap.size = q := ⟨_, rfl⟩
  rw [hqb] at j2 ⊢
  have d0 : w8.cell? ⟨qb, 0, none⟩ = some (.int .i64 y.state) := by rw [j2.cell]; rfl
  have h8 : y.p.cells.length = 8 := by simp [PrefM.cells, hyo.pre]
  have d1 : ∀ K : Value → Prop, ldRow 8 ⟨qb, 1, none⟩ w8 K = K (.agg y.p.cells.toArray) := fun K => by
    have hl := hyo.len
    simp only [PlaceM.cells, List.length_cons, List.length_append, h8] at hl
    rw [j2.row_eq 1 8 (by simp only [PlaceM.cells, List.length_cons, List.length_append, h8]; omega)]
    congr 2
    simp only [PlaceM.cells, List.drop_succ_cons, List.drop_zero]
    rw [List.take_append_of_le_length (by omega), List.take_of_length_le (by omega)]
  have ho8 := ho2.more hm8
  have hts := taken_step hy
  have htl := taken_le ls k
  rw [s2_undef]
  by_cases h1 : y.state = 1
  · rw [if_pos h1] at hts
    simp -implicitDefEqProofs (maxSteps := 1000000) only [↓zvN, zvU, ↓zvE, zvM, init, one, Value.cells, simprocAttr, tyF, h13, h3, d0, d1, h1]
    refine bslice1 Tryz.underlying48 prefE (by omega) (by omega) h8 ?_
    have hm6 := more_alloc w8 (.cells y.p.cells.toArray 37)
    have hb6 := Blk.new w8 37 y.p.cells.toArray
    have s6 := size_alloc w8 (.cells y.p.cells.toArray 37)
    simp -implicitDefEqProofs (maxSteps := 1000000) only [↓zvN, zvU, ↓zvE, zvM, init, one, Value.cells, simprocAttr, tyF, h13, h3]
    obtain ⟨w6, hw6⟩ : ∃ w6, w8.alloc (.cells y.p.cells.toArray 37) = w6 := ⟨_, rfl⟩
    rw [hw6] at hm6 hb6 s6 ⊢
    clear hw6
    rw [List.toList_toArray] at hb6
    have hsz := hm18.size
    refine app_mod (m := 1) (news := y.p.cells) Tryz.underlying48 prefE rfl (by omega) (ho8.more hm6) hb6.cs (by rw [h8]) (PrefM.one _) (by simp only [maxLen]; omega) (by omega) (by omega) ?_
    intro A9 c9 w9 ho9 hmod9 hat9
    have hm9 : More w w9 := Mod.more (hm18.trans hm6) hmod9 (fun k hk h => by have := ho8.atB_ge h; omega)
    simp -implicitDefEqProofs (maxSteps := 1000000) only [↓zvN, zvU, ↓zvE, zvM, init, one, Value.cells, simprocAttr, tyF, h13, h3, ek]
    rw [show (takenM (ls.take k)).length + 1 = (takenM (ls.take (k + 1))).length by rw [hts]; simp] at ho9 ⊢
    refine ⟨⟨?_, k + 1, A9, c9, rfl, by omega, rfl, by rw [hts] at ho9 ⊢; simpa [List.flatMap_append] using ho9, hm9⟩, by simp only [numOf]; omega⟩
    repeat (first | exact Same.hv _ _ _ | refine Same.up (by simp) ?_)
  · rw [if_neg h1, List.append_nil] at hts
    simp -implicitDefEqProofs (maxSteps := 1000000) only [↓zvN, zvU, ↓zvE, zvM, init, one, Value.cells, simprocAttr, tyF, h13, h3, d0, d1, h1, ek]
    refine ⟨⟨?_, k + 1, A2, c2, rfl, by omega, by rw [hts], by rw [hts]; exact ho8, hm18⟩, by simp only [numOf]; omega⟩
    repeat (first | exact Same.hv _ _ _ | refine Same.up (by simp) ?_)
set_option maxHeartbeats 1000000
abbrev EntM := PrefM × List Value
section
variable {α : Type}
def keysM (L : List (PrefM × α)) : List PrefM := L.map (·.1)
def SortedM (L : List (PrefM × α)) : Prop := (keysM L).Pairwise plt
instance (L : List (PrefM × α)) (p : PrefM) : Decidable (p ∈ keysM L) := inferInstance
def putL (L : List (PrefM × α)) (p : PrefM) (v : α) : List (PrefM × α) :=
  if p ∈ keysM L then L.map (fun e => if e.1 = p then (p, v) else e) else L.takeWhile (fun e => plt e.1 p) ++ (p, v) :: L.dropWhile (fun e => plt e.1 p)
def delL (L : List (PrefM × α)) (p : PrefM) : List (PrefM × α) := L.filter (fun e => e.1 ≠ p)
def getL (L : List (PrefM × α)) (p : PrefM) : Option α := (L.find? (fun e => e.1 = p)).map (·.2)
theorem mem_keys {L : List (PrefM × α)} {p : PrefM} : p ∈ keysM L ↔ ∃ v, (p, v) ∈ L := by
  unfold keysM
  constructor
  · intro h
    obtain ⟨e, he, rfl⟩ := List.mem_map.1 h
    exact ⟨e.2, he⟩
  · rintro ⟨v, h⟩
    exact List.mem_map.2 ⟨_, h, rfl⟩
theorem SortedM.nodup {L : List (PrefM × α)} (h : SortedM L) : (keysM L).Nodup := List.Pairwise.imp (fun {a b} (h : plt a b) (e : a = b) => plt_irrefl a (by rw [← e] at h; exact h)) h
theorem SortedM.one : ∀ {L : List (PrefM × α)}, SortedM L → ∀ {p : PrefM} {u v : α}, (p, u) ∈ L → (p, v) ∈ L → u = v
  | [], _, _, _, _, h, _ => by cases h
  | e :: L, hs, p, u, v, h1, h2 => by
    have hs' := List.pairwise_cons.1 (show (e.1 :: keysM L).Pairwise plt from hs)
    have no : ∀ w, (e.1, w) ∉ L := fun w hw => plt_irrefl _ (hs'.1 _ (mem_keys.2 ⟨w, hw⟩))
    rcases List.mem_cons.1 h1 with h3 | h3
    · rcases List.mem_cons.1 h2 with h4 | h4
      · rw [← h3] at h4
        exact (congrArg Prod.snd h4).symm
      · subst h3
        exact absurd h4 (no v)
    · rcases List.mem_cons.1 h2 with h4 | h4
      · subst h4
        exact absurd h3 (no u)
      · exact SortedM.one hs'.2 h3 h4
theorem mem_putL {L : List (PrefM × α)} {p q : PrefM} {u v : α} : (q, u) ∈ putL L p v ↔ (q = p ∧ u = v) ∨ (q ≠ p ∧ (q, u) ∈ L) := by
  unfold putL
  by_cases h : p ∈ keysM L
  · rw [if_pos h, List.mem_map]
    constructor
    · rintro ⟨e, he, h1⟩
      by_cases h2 : e.1 = p
      · rw [if_pos h2] at h1
        cases h1
        exact .inl ⟨rfl, rfl⟩
      · rw [if_neg h2] at h1
        subst h1
        exact .inr ⟨h2, he⟩
    · rintro (⟨rfl, rfl⟩ | ⟨h1, h2⟩)
      · obtain ⟨w, hw⟩ := mem_keys.1 h
        exact ⟨_, hw, by rw [if_pos rfl]⟩
      · exact ⟨_, h2, by rw [if_neg h1]⟩
  · rw [if_neg h]
    have hp := List.takeWhile_append_dropWhile (p := fun e : PrefM × α => decide (plt e.1 p)) (l := L)
    have hm : (q, u) ∈ L ↔ (q, u) ∈ L.takeWhile (fun e => plt e.1 p) ∨ (q, u) ∈ L.dropWhile (fun e => plt e.1 p) := by
      conv => lhs; rw [← hp]
      exact List.mem_append
    rw [List.mem_append, List.mem_cons]
    constructor
    · rintro (h1 | h1 | h1)
      · have : (q, u) ∈ L := hm.2 (.inl h1)
        exact .inr ⟨fun e => h (e ▸ mem_keys.2 ⟨u, this⟩), this⟩
      · cases h1
        exact .inl ⟨rfl, rfl⟩
      · have : (q, u) ∈ L := hm.2 (.inr h1)
        exact .inr ⟨fun e => h (e ▸ mem_keys.2 ⟨u, this⟩), this⟩
    · rintro (⟨rfl, rfl⟩ | ⟨h1, h2⟩)
      · exact .inr (.inl rfl)
      · rcases hm.1 h2 with h3 | h3
        · exact .inl h3
        · exact .inr (.inr h3)
theorem mem_delL {L : List (PrefM × α)} {p q : PrefM} {u : α} : (q, u) ∈ delL L p ↔ q ≠ p ∧ (q, u) ∈ L := by
  unfold delL
  rw [List.mem_filter]
  simp only [decide_eq_true_eq, ne_eq]
  exact and_comm
theorem sorted_insert {p : PrefM} : ∀ {l : List PrefM}, l.Pairwise plt → p ∉ l → (l.takeWhile (fun q => plt q p) ++ p :: l.dropWhile (fun q => plt q p)).Pairwise plt
  | [], _, _ => by simp
  | q :: l, h, hn => by
    have h' := List.pairwise_cons.1 h
    have hq : q ≠ p := fun e => hn (by simp [e])
    by_cases h1 : plt q p
    · rw [List.takeWhile_cons_of_pos (by simpa using h1), List.dropWhile_cons_of_pos (by simpa using h1), List.cons_append, List.pairwise_cons]
      refine ⟨fun r hr => ?_, sorted_insert h'.2 (fun hm => hn (by simp [hm]))⟩
      rw [List.mem_append, List.mem_cons] at hr
      rcases hr with hr | rfl | hr
      · exact h'.1 r ((List.takeWhile_sublist _).mem hr)
      · exact h1
      · exact h'.1 r ((List.dropWhile_sublist _).mem hr)
    · rw [List.takeWhile_cons_of_neg (by simpa using h1), List.dropWhile_cons_of_neg (by simpa using h1), List.nil_append, List.pairwise_cons]
      have h2 : plt p q := by
        rcases Classical.em (plt p q) with h | h
        · exact h
        · exact absurd ((plt_total hq).2 h) h1
      refine ⟨fun r hr => ?_, h⟩
      rcases List.mem_cons.1 hr with rfl | hr
      · exact h2
      · exact plt_trans h2 (h'.1 r hr)
theorem keys_put_in {L : List (PrefM × α)} {p : PrefM} {v : α} (h : p ∈ keysM L) : keysM (putL L p v) = keysM L := by
  unfold putL
  rw [if_pos h]
  unfold keysM
  rw [List.map_map]
  apply List.map_congr_left
  intro e _
  simp only [Function.comp]
  split
  · rename_i h; exact h.symm
  · rfl
theorem keys_put_new {L : List (PrefM × α)} {p : PrefM} {v : α} (h : p ∉ keysM L) : keysM (putL L p v) = (keysM L).takeWhile (fun q => plt q p) ++ p :: (keysM L).dropWhile (fun q => plt q p) := by
  unfold putL
  rw [if_neg h]
  unfold keysM
  rw [List.map_append, List.map_cons, List.takeWhile_map, List.dropWhile_map]
  rfl
theorem SortedM.put {L : List (PrefM × α)} (h : SortedM L) (p : PrefM) (v : α) : SortedM (putL L p v) := by
  unfold SortedM
  by_cases hp : p ∈ keysM L
  · rw [keys_put_in hp]; exact h
  · rw [keys_put_new hp]; exact sorted_insert h hp
theorem SortedM.del {L : List (PrefM × α)} (h : SortedM L) (p : PrefM) : SortedM (delL L p) := by
  unfold SortedM keysM at *
  rw [List.pairwise_map] at *
  exact h.filter _
theorem put_len {L : List (PrefM × α)} (p : PrefM) (v : α) : (putL L p v).length = if p ∈ keysM L then L.length else L.length + 1 := by
  unfold putL
  by_cases hp : p ∈ keysM L
  · rw [if_pos hp, if_pos hp, List.length_map]
  · rw [if_neg hp, if_neg hp, List.length_append, List.length_cons]
    have key : ∀ f : PrefM × α → Bool, (L.takeWhile f).length + (L.dropWhile f).length = L.length := fun f => by
      have := congrArg List.length (List.takeWhile_append_dropWhile (p := f) (l := L))
      rwa [List.length_append] at this
    exact congrArg (· + 1) (key _)
theorem del_len : ∀ {L : List (PrefM × α)}, SortedM L → ∀ (p : PrefM), (delL L p).length = if p ∈ keysM L then L.length - 1 else L.length
  | [], _, p => by simp [delL, keysM]
  | e :: L, h, p => by
    have h' := List.pairwise_cons.1 (show (e.1 :: keysM L).Pairwise plt from h)
    have ih := del_len (L := L) h'.2 p
    unfold delL at *
    have hk : ∀ q, q ∈ keysM (e :: L) ↔ q = e.1 ∨ q ∈ keysM L := fun q => List.mem_cons
    by_cases h1 : e.1 = p
    · have hn : p ∉ keysM L := fun hm => plt_irrefl p (by have := h'.1 p hm; rw [h1] at this; exact this)
      rw [if_neg hn] at ih
      rw [List.filter_cons_of_neg (by simp [h1]), ih, if_pos ((hk p).2 (.inl h1.symm))]
      rfl
    · rw [List.filter_cons_of_pos (by simp [h1]), List.length_cons, ih, List.length_cons]
      by_cases h2 : p ∈ keysM L
      · rw [if_pos h2, if_pos ((hk p).2 (.inr h2))]
        have : 0 < L.length := by
          cases L with
          | nil => cases h2
          | cons => simp
        omega
      · rw [if_neg h2, if_neg (fun h3 => by rcases (hk p).1 h3 with h4 | h4; exact h1 h4.symm; exact h2 h4)]
theorem get_some {L : List (PrefM × α)} (h : SortedM L) {p : PrefM} {v : α} (hm : (p, v) ∈ L) : getL L p = some v := by
  unfold getL
  cases hf : L.find? (fun e => e.1 = p) with
  | none =>
    have := List.find?_eq_none.1 hf (p, v) hm
    simp at this
  | some e =>
    have h1 := List.find?_some hf
    have h2 := List.mem_of_find?_eq_some hf
    simp only [decide_eq_true_eq] at h1
    obtain ⟨q, u⟩ := e
    simp only at h1
    subst h1
    rw [SortedM.one h h2 hm]
    rfl
theorem get_none {L : List (PrefM × α)} {p : PrefM} (h : p ∉ keysM L) : getL L p = none := by
  unfold getL
  rw [List.find?_eq_none.2 fun e he => ?_]
  · rfl
  · simp only [decide_eq_true_eq]
    intro h1
    exact h (mem_keys.2 ⟨e.2, by rw [← h1]; exact he⟩)
theorem sorted_ext : ∀ {l m : List PrefM}, l.Pairwise plt → m.Pairwise plt → (∀ x, x ∈ l ↔ x ∈ m) → l = m
  | [], [], _, _, _ => rfl
  | [], y :: m, _, _, h => by have := (h y).2 (by simp); cases this
  | x :: l, [], _, _, h => by have := (h x).1 (by simp); cases this
  | x :: l, y :: m, hl, hm, h => by
    have hl' := List.pairwise_cons.1 hl
    have hm' := List.pairwise_cons.1 hm
    have e : x = y := by
      rcases List.mem_cons.1 ((h x).1 (by simp)) with h1 | h1
      · exact h1
      · rcases List.mem_cons.1 ((h y).2 (by simp)) with h2 | h2
        · exact h2.symm
        · exact absurd (plt_trans (hm'.1 x h1) (hl'.1 y h2)) (plt_irrefl _)
    subst e
    rw [sorted_ext hl'.2 hm'.2 fun z => ⟨fun hz => ?_, fun hz => ?_⟩]
    · rcases List.mem_cons.1 ((h z).1 (by simp [hz])) with rfl | h1
      · exact absurd (hl'.1 z hz) (plt_irrefl _)
      · exact h1
    · rcases List.mem_cons.1 ((h z).2 (by simp [hz])) with rfl | h1
      · exact absurd (hm'.1 z hz) (plt_irrefl _)
      · exact h1
theorem nodup_le : ∀ {l m : List PrefM}, l.Nodup → (∀ x ∈ l, x ∈ m) → l.length ≤ m.length
  | [], _, _, _ => by simp
  | x :: l, m, hn, h => by
    have hn' := List.nodup_cons.1 hn
    have h1 := nodup_le (m := m.erase x) hn'.2 fun y hy => by
      have hm := h y (by simp [hy])
      exact (List.mem_erase_of_ne (fun e : y = x => hn'.1 (by rw [← e]; exact hy))).2 hm
    have h2 := List.length_erase_of_mem (h x (by simp))
    have h3 : 0 < m.length := List.length_pos_of_mem (h x (by simp))
    rw [List.length_cons]
    omega
theorem put_map {β : Type} (g : α → β) (L : List (PrefM × α)) (p : PrefM) (v : α) : putL (L.map fun e => (e.1, g e.2)) p (g v) = (putL L p v).map fun e => (e.1, g e.2) := by
  have hk : keysM (L.map fun e => (e.1, g e.2)) = keysM L := by unfold keysM; rw [List.map_map]; rfl
  unfold putL
  by_cases h : p ∈ keysM L
  · rw [if_pos h, if_pos (by rw [hk]; exact h), List.map_map, List.map_map]
    apply List.map_congr_left
    intro e _
    simp only [Function.comp]
    split <;> rfl
  · rw [if_neg h, if_neg (by rw [hk]; exact h), List.map_append, List.map_cons, List.takeWhile_map, List.dropWhile_map]
    rfl
theorem keys_map {β : Type} (g : α → β) (L : List (PrefM × α)) : keysM (L.map fun e => (e.1, g e.2)) = keysM L := by unfold keysM; rw [List.map_map]; rfl
theorem del_map {β : Type} (g : α → β) (L : List (PrefM × α)) (p : PrefM) : delL (L.map fun e => (e.1, g e.2)) p = (delL L p).map fun e => (e.1, g e.2) := by
  unfold delL
  rw [List.filter_map]
  rfl
theorem get_map {β : Type} (g : α → β) (L : List (PrefM × α)) (p : PrefM) : getL (L.map fun e => (e.1, g e.2)) p = (getL L p).map g := by
  unfold getL
  rw [List.find?_map, Option.map_map, Option.map_map]
  rfl
end
theorem TInv.set {ls : List PlaceM} (h : TInv ls) {i : Nat} {x : PlaceM} (hi : i < ls.length) (h0 : x.state ≠ 0) (h1 : x.state = 1 → (∃ k, k < ls.length ∧ i = wayM ls x.p k ∧ ∀ j, j < k → ¬ FreeAt ls (wayM ls x.p j)) ∧ ∀ (i' : Nat) (y : PlaceM), i' ≠ i → ls[i']? = some y → y.state = 1 → y.p ≠ x.p) : TInv (ls.set i x) := by
  have hw : ∀ p k, wayM (ls.set i x) p k = wayM ls p k := fun p k => by unfold wayM; rw [List.length_set]
  have hf : ∀ j, ¬ FreeAt ls j → ¬ FreeAt (ls.set i x) j := by
    rintro j hj ⟨y, hy, h2⟩
    by_cases e : i = j
    · subst e
      rw [List.getElem?_set_self hi] at hy
      cases hy
      exact h0 h2
    · rw [List.getElem?_set_ne e] at hy
      exact hj ⟨y, hy, h2⟩
  refine ⟨fun a y hy hs => ?_, fun a b y z hy hz hs ht hp => ?_⟩
  · simp only [hw, List.length_set]
    by_cases e : i = a
    · subst e
      rw [List.getElem?_set_self hi] at hy
      cases hy
      obtain ⟨⟨k, h2, h3, h4⟩, _⟩ := h1 hs
      exact ⟨k, h2, h3, fun j hj => hf _ (h4 j hj)⟩
    · rw [List.getElem?_set_ne e] at hy
      obtain ⟨k, h2, h3, h4⟩ := h.way a y hy hs
      exact ⟨k, h2, h3, fun j hj => hf _ (h4 j hj)⟩
  · by_cases e : i = a
    · by_cases e2 : i = b
      · omega
      · subst e
        rw [List.getElem?_set_self hi] at hy
        rw [List.getElem?_set_ne e2] at hz
        cases hy
        exact absurd hp.symm ((h1 hs).2 b z (fun e => e2 e.symm) hz ht)
    · rw [List.getElem?_set_ne e] at hy
      by_cases e2 : i = b
      · subst e2
        rw [List.getElem?_set_self hi] at hz
        cases hz
        exact absurd hp ((h1 ht).2 a y (fun e' => e e'.symm) hy hs)
      · rw [List.getElem?_set_ne e2] at hz
        exact h.one a b y z hy hz hs ht hp
def AtM (ls : List PlaceM) (q : PrefM) (u : List Value) : Prop := ∃ i : Nat, ls[i]? = some ⟨1, q, u⟩
theorem at_set {ls : List PlaceM} {i : Nat} {x : PlaceM} (hi : i < ls.length) {q : PrefM} {u : List Value} : AtM (ls.set i x) q u ↔ x = ⟨1, q, u⟩ ∨ ∃ j : Nat, j ≠ i ∧ ls[j]? = some ⟨1, q, u⟩ := by
  constructor
  · rintro ⟨j, hj⟩
    by_cases e : i = j
    · subst e
      rw [List.getElem?_set_self hi] at hj
      exact .inl (Option.some.inj hj)
    · rw [List.getElem?_set_ne e] at hj
      exact .inr ⟨j, fun e' => e e'.symm, hj⟩
  · rintro (rfl | ⟨j, h1, h2⟩)
    · exact ⟨i, List.getElem?_set_self hi⟩
    · exact ⟨j, by rw [List.getElem?_set_ne (fun e => h1 e.symm)]; exact h2⟩
structure TabRel (ls : List PlaceM) (L : List EntM) (room : Nat) : Prop where
  inv : TInv ls
  mem : ∀ q u, (q, u) ∈ L ↔ AtM ls q u
  sorted : SortedM L
  len : ls.length = 2 * room
  le : L.length ≤ room
  pos : 1 ≤ room
theorem TabRel.new (room : Nat) (h : 1 ≤ room) (z : List Value) : TabRel (List.replicate (2 * room) ⟨0, prefZ, z⟩) [] room := by
  have no : ∀ (i : Nat) (y : PlaceM), (List.replicate (2 * room) (PlaceM.mk 0 prefZ z))[i]? = some y → y.state = 0 := by
    intro i y hy
    rw [List.getElem?_replicate] at hy
    split at hy
    · cases hy; rfl
    · cases hy
  refine ⟨⟨fun i y hy hs => (by have := no i y hy; omega), fun i j y z hy hz hs ht hp => (by have := no i y hy; omega)⟩, fun q u => ⟨fun h => (by cases h), fun ⟨i, hi⟩ => (by have := no i _ hi; simp at this)⟩, List.Pairwise.nil, by simp, Nat.zero_le _, h⟩
theorem TabRel.lpos {ls : List PlaceM} {L : List EntM} {room : Nat} (h : TabRel ls L room) : 0 < ls.length := by have := h.len; have := h.pos; omega
theorem taken_nodup {ls : List PlaceM} (h : TInv ls) : (takenM ls).Nodup := by
  unfold takenM List.Nodup
  rw [List.pairwise_map, List.pairwise_filter]
  rw [List.pairwise_iff_getElem]
  intro i j hi hj hij h1 h2 e
  have := h.one i j _ _ (List.getElem?_eq_getElem hi) (List.getElem?_eq_getElem hj) (by simpa using h1) (by simpa using h2) e
  omega
theorem mem_taken {ls : List PlaceM} {p : PrefM} : p ∈ takenM ls ↔ ∃ u, AtM ls p u := by
  unfold takenM
  constructor
  · intro h
    obtain ⟨y, hy, rfl⟩ := List.mem_map.1 h
    obtain ⟨h1, h2⟩ := List.mem_filter.1 hy
    obtain ⟨i, hi⟩ := List.getElem?_of_mem h1
    simp only [decide_eq_true_eq] at h2
    refine ⟨y.v, i, ?_⟩
    rw [hi, ← h2]
  · rintro ⟨u, i, hi⟩
    exact List.mem_map.2 ⟨_, List.mem_filter.2 ⟨List.mem_of_getElem? hi, by simp⟩, rfl⟩
theorem TabRel.taken {ls : List PlaceM} {L : List EntM} {room : Nat} (h : TabRel ls L room) {p : PrefM} : p ∈ takenM ls ↔ p ∈ keysM L := by
  rw [mem_taken, mem_keys]
  exact ⟨fun ⟨u, hu⟩ => ⟨u, (h.mem p u).2 hu⟩, fun ⟨u, hu⟩ => ⟨u, (h.mem p u).1 hu⟩⟩
theorem TabRel.some_left {ls : List PlaceM} {L : List EntM} {room : Nat} (h : TabRel ls L room) : ∃ (i : Nat) (y : PlaceM), ls[i]? = some y ∧ y.state ≠ 1 := by
  rcases Classical.em (∃ (i : Nat) (y : PlaceM), ls[i]? = some y ∧ y.state ≠ 1) with h1 | h1
  · exact h1
  · exfalso
    have hall : ∀ y ∈ ls, y.state = 1 := fun y hy => by
      obtain ⟨i, hi⟩ := List.getElem?_of_mem hy
      rcases Classical.em (y.state = 1) with h2 | h2
      · exact h2
      · exact absurd ⟨i, y, hi, h2⟩ h1
    have e : takenM ls = ls.map PlaceM.p := by
      unfold takenM
      rw [List.filter_eq_self.2 fun y hy => by simpa using hall y hy]
    have := nodup_le (taken_nodup h.inv) (m := keysM L) fun p hp => h.taken.1 hp
    rw [e, List.length_map] at this
    unfold keysM at this
    rw [List.length_map] at this
    have := h.len; have := h.le; have := h.pos
    omega
theorem TabRel.all {ls : List PlaceM} {L : List EntM} {room : Nat} (h : TabRel ls L room) {rs : List PrefM} (hp : rs.Perm (takenM ls)) (hs : rs.Pairwise (fun x y => ¬ plt y x)) : rs = keysM L := by
  have hn : rs.Nodup := hp.nodup_iff.2 (taken_nodup h.inv)
  refine sorted_ext ?_ h.sorted fun x => ?_
  · have := hs.and hn
    refine this.imp ?_
    rintro a b ⟨h1, h2⟩
    rcases Classical.em (plt a b) with h3 | h3
    · exact h3
    · exact absurd ((plt_total (fun e => h2 e.symm)).2 h3) h1
  · rw [hp.mem_iff]
    exact h.taken
theorem TabRel.hit {ls : List PlaceM} {L : List EntM} {room : Nat} (h : TabRel ls L room) {p : PrefM} : 0 ≤ (findM ls p).1 ↔ p ∈ keysM L := by
  constructor
  · intro h1
    obtain ⟨i, _, _, y, hy, hy1, hyp⟩ := find_hit h.lpos h1
    exact mem_keys.2 ⟨y.v, (h.mem _ _).2 ⟨i, by rw [hy, ← hyp, ← hy1]⟩⟩
  · intro h1
    rcases Int.lt_or_le (findM ls p).1 0 with h2 | h2
    · obtain ⟨v, hv⟩ := mem_keys.1 h1
      obtain ⟨i, hi⟩ := (h.mem _ _).1 hv
      exact absurd ⟨_, hi, rfl, rfl⟩ (find_miss h.inv h.lpos h2 i)
    · exact h2
theorem TabRel.put_in {ls : List PlaceM} {L : List EntM} {room : Nat} (h : TabRel ls L room) {p : PrefM} (v : List Value) (hk : p ∈ keysM L) : TabRel (ls.set (findM ls p).1.toNat ⟨1, p, v⟩) (putL L p v) room := by
  obtain ⟨i, e, hil, y, hy, hy1, hyp⟩ := find_hit h.lpos (h.hit.2 hk)
  rw [e, Int.toNat_natCast]
  refine ⟨h.inv.set hil (by simp) (fun _ => ⟨?_, fun j z hj hz hz1 hzp => hj (h.inv.one j i z y hz hy hz1 hy1 (by rw [hyp]; exact hzp))⟩), fun q u => ?_, h.sorted.put _ _, by rw [List.length_set]; exact h.len, by rw [put_len, if_pos hk]; exact h.le, h.pos⟩
  · obtain ⟨k, h1, h2, h3⟩ := h.inv.way i y hy hy1
    rw [hyp] at h2 h3
    exact ⟨k, h1, h2, h3⟩
  · rw [mem_putL, at_set hil, h.mem]
    constructor
    · rintro (⟨rfl, rfl⟩ | ⟨h1, j, hj⟩)
      · exact .inl rfl
      · refine .inr ⟨j, fun e => ?_, hj⟩
        subst e
        rw [hy] at hj
        have : y = ⟨1, q, u⟩ := Option.some.inj hj
        rw [this] at hyp
        exact h1 hyp
    · rintro (h1 | ⟨j, h1, h2⟩)
      · simp only [PlaceM.mk.injEq] at h1
        exact .inl ⟨h1.2.1.symm, h1.2.2.symm⟩
      · refine .inr ⟨fun e => ?_, j, h2⟩
        exact h1 (h.inv.one j i _ y h2 hy rfl hy1 (by rw [hyp]; exact e))
theorem TabRel.spot {ls : List PlaceM} {L : List EntM} {room : Nat} (h : TabRel ls L room) {p : PrefM} (hk : p ∉ keysM L) : ∃ i : Nat, (findM ls p).2 = i ∧ i < ls.length := by
  have hlt : (findM ls p).1 < 0 := by
    rcases Int.lt_or_le (findM ls p).1 0 with h1 | h1
    · exact h1
    · exact absurd (h.hit.1 h1) hk
  obtain ⟨k, h1, h2, ⟨y, hy, _⟩, _⟩ := find_spot h.lpos hlt h.some_left
  exact ⟨_, h2, (List.getElem?_eq_some_iff.1 hy).1⟩
theorem TabRel.put_new {ls : List PlaceM} {L : List EntM} {room : Nat} (h : TabRel ls L room) {p : PrefM} (v : List Value) (hk : p ∉ keysM L) (hr : L.length ≠ room) : TabRel (ls.set (findM ls p).2.toNat ⟨1, p, v⟩) (putL L p v) room := by
  have hlt : (findM ls p).1 < 0 := by
    rcases Int.lt_or_le (findM ls p).1 0 with h1 | h1
    · exact h1
    · exact absurd (h.hit.1 h1) hk
  obtain ⟨k, h1, h2, ⟨y, hy, hy1⟩, h3⟩ := find_spot h.lpos hlt h.some_left
  have hil := (List.getElem?_eq_some_iff.1 hy).1
  have hno : ∀ (j : Nat) (z : PlaceM), ls[j]? = some z → z.state = 1 → z.p ≠ p := fun j z hz hz1 hzp => hk (by
    refine mem_keys.2 ⟨z.v, (h.mem _ _).2 ⟨j, ?_⟩⟩
    rw [hz, ← hzp, ← hz1])
  rw [h2, Int.toNat_natCast]
  refine ⟨h.inv.set hil (by simp) (fun _ => ⟨⟨k, h1, rfl, h3⟩, fun j z _ hz hz1 => hno j z hz hz1⟩), fun q u => ?_, h.sorted.put _ _, by rw [List.length_set]; exact h.len, by rw [put_len, if_neg hk]; have := h.le; omega, h.pos⟩
  rw [mem_putL, at_set hil, h.mem]
  constructor
  · rintro (⟨rfl, rfl⟩ | ⟨h4, j, hj⟩)
    · exact .inl rfl
    · refine .inr ⟨j, fun e => ?_, hj⟩
      subst e
      rw [hy] at hj
      have : y = ⟨1, q, u⟩ := Option.some.inj hj
      rw [this] at hy1
      exact hy1 rfl
  · rintro (h4 | ⟨j, h4, h5⟩)
    · simp only [PlaceM.mk.injEq] at h4
      exact .inl ⟨h4.2.1.symm, h4.2.2.symm⟩
    · exact .inr ⟨hno j _ h5 rfl, j, h5⟩
theorem TabRel.del {ls : List PlaceM} {L : List EntM} {room : Nat} (h : TabRel ls L room) {p : PrefM} (z : List Value) (hk : p ∈ keysM L) : TabRel (ls.set (findM ls p).1.toNat ⟨2, prefZ, z⟩) (delL L p) room := by
  obtain ⟨i, e, hil, y, hy, hy1, hyp⟩ := find_hit h.lpos (h.hit.2 hk)
  rw [e, Int.toNat_natCast]
  refine ⟨h.inv.set hil (by simp) (fun h => by simp at h), fun q u => ?_, h.sorted.del _, by rw [List.length_set]; exact h.len, by rw [del_len h.sorted, if_pos hk]; have := h.le; omega, h.pos⟩
  rw [mem_delL, at_set hil, h.mem]
  constructor
  · rintro ⟨h1, j, hj⟩
    refine .inr ⟨j, fun e => ?_, hj⟩
    subst e
    rw [hy] at hj
    have : y = ⟨1, q, u⟩ := Option.some.inj hj
    rw [this] at hyp
    exact h1 hyp
  · rintro (h1 | ⟨j, h1, h2⟩)
    · simp at h1
    · refine ⟨fun e => ?_, j, h2⟩
      exact h1 (h.inv.one j i _ y h2 hy rfl hy1 (by rw [hyp]; exact e))
def putOk (L : List EntM) (room : Nat) (p : PrefM) : Bool := decide (p ∈ keysM L) || decide (L.length < room)
def putA (L : List EntM) (room : Nat) (p : PrefM) (v : List Value) : List EntM := if putOk L room p = true then putL L p v else L
theorem set_typed {ls : List PlaceM} {Q : List Value → Prop} (h : ∀ y ∈ ls, Q y.v) {i : Nat} {x : PlaceM} (hx : Q x.v) : ∀ y ∈ ls.set i x, Q y.v := by
  intro y hy
  rcases List.mem_or_eq_of_mem_set hy with h1 | rfl
  · exact h y h1
  · exact hx
def AllA (L : List EntM) (w : World) (v : Value) (w' : World) : Prop :=
  ∃ (A : Option Addr) (c : Nat), v = .slice A (keysM L).length c ∧ Cs w' A ((keysM L).flatMap PrefM.cells) ∧ (∀ a, A = some a → w.heap.size ≤ a.block) ∧ More w w'
def Typed_box (v : List Value) : Prop := ∃ (x : Int) (a : Option Addr), v = [.int .i64 x, .pointer a]
def TabA_box (w : World) (b t : Nat) (L : List EntM) (room : Nat) : Prop :=
  ∃ ls : List PlaceM, TabW w 338 344 11 b t ls room L.length ∧ TabRel ls L room ∧ ∀ y ∈ ls, Typed_box y.v
theorem TabA_box.mod {w w' : World} {S : Nat → Prop} {b t : Nat} {L : List EntM} {room : Nat} (h : TabA_box w b t L room) (hm : Mod S w w') (hb : ¬ S b) (ht : ¬ S t) : TabA_box w' b t L room := by
  obtain ⟨ls, h1, h2, h3⟩ := h
  exact ⟨ls, ⟨hm.blk h1.row hb, hm.blk h1.tab ht, h1.ne, h1.ok, h1.pos, h1.le⟩, h2, h3⟩
theorem TabA_box.more {w w' : World} {b t : Nat} {L : List EntM} {room : Nat} (h : TabA_box w b t L room) (hm : More w w') : TabA_box w' b t L room :=
  h.mod (S := fun _ => False) (Mod.of_more hm) (fun h => h) (fun h => h)
theorem TabA_box.sorted {w : World} {b t : Nat} {L : List EntM} {room : Nat} (h : TabA_box w b t L room) : SortedM L := by obtain ⟨ls, h1, h2, h3⟩ := h; exact h2.sorted
theorem TabA_box.le {w : World} {b t : Nat} {L : List EntM} {room : Nat} (h : TabA_box w b t L room) : L.length ≤ room := by obtain ⟨ls, h1, h2, h3⟩ := h; exact h2.le
theorem TabA_box.lt {w : World} {b t : Nat} {L : List EntM} {room : Nat} (h : TabA_box w b t L room) : b < w.heap.size ∧ t < w.heap.size := by obtain ⟨ls, h1, h2, h3⟩ := h; exact ⟨h1.row.lt, h1.tab.lt⟩
theorem TabA_box.typed {w : World} {b t : Nat} {L : List EntM} {room : Nat} (h : TabA_box w b t L room) {p : PrefM} {v : List Value} (hm : (p, v) ∈ L) : Typed_box v ∧ p.addr.length = 7 := by
  obtain ⟨ls, h1, h2, h3⟩ := h
  obtain ⟨i, hi⟩ := (h2.mem _ _).1 hm
  have := List.mem_of_getElem? hi
  exact ⟨h3 _ this, (h1.ok _ this).pre⟩
theorem tab_put_box (w : World) (b t : Nat) (L : List EntM) (room : Nat) (p : PrefM) (x : Int) (a : Option Addr) (hp : p.addr.length = 7) (hT : TabA_box w b t L room) (hr : room ≤ 64) :
    Ret Tryz.prog 139 #[.pointer (some ⟨t, 0, none⟩), .agg p.cells.toArray, .agg #[.int .i64 x, .pointer a]] w fun v w' => v = .bool (putOk L room p) ∧ TabA_box w' b t (putA L room p [.int .i64 x, .pointer a]) room ∧ Mod (duoT b t) w w' := by
  obtain ⟨ls, h1, h2, h3⟩ := hT
  refine Calls.mono (table_put_box w b t ls room L.length p x a hp h1 hr h2.le (fun h4 _ => h2.spot fun hk => by have := h2.hit.2 hk; omega)) ?_
  rintro e w' ⟨v, rfl, rfl, hT', hm⟩
  refine ⟨_, rfl, ?_⟩
  unfold putA putOk
  unfold putM at hT' ⊢
  by_cases hk : p ∈ keysM L
  · have h5 := h2.hit.2 hk
    rw [if_pos h5] at hT' ⊢
    simp only [hk, decide_true, Bool.true_or, if_true]
    refine ⟨trivial, ⟨_, by rw [put_len, if_pos hk]; exact hT', h2.put_in _ hk, set_typed h3 ⟨x, a, rfl⟩⟩, hm⟩
  · have h5 : ¬ 0 ≤ (findM ls p).1 := fun h => hk (h2.hit.1 h)
    rw [if_neg h5] at hT' ⊢
    have hle := h2.le
    by_cases h6 : L.length = room
    · rw [if_pos h6] at hT' ⊢
      have h7 : ¬ L.length < room := by omega
      simp only [hk, h7, decide_false, Bool.false_or, Bool.false_eq_true, if_false]
      exact ⟨trivial, ⟨_, hT', h2, h3⟩, hm⟩
    · rw [if_neg h6] at hT' ⊢
      have h7 : L.length < room := by omega
      simp only [hk, h7, decide_true, decide_false, Bool.false_or, if_true]
      exact ⟨trivial, ⟨_, by rw [put_len, if_neg hk]; exact hT', h2.put_new _ hk h6, set_typed h3 ⟨x, a, rfl⟩⟩, hm⟩
def GetA_box (L : List EntM) (p : PrefM) (w : World) (v : Value) (w' : World) : Prop :=
  (getL L p = none → v = .tuple #[.agg #[.int .i64 0, .pointer none], .bool false]) ∧ (∀ (x : Int) (a : Option Addr), getL L p = some [.int .i64 x, .pointer a] → v = .tuple #[.agg #[.int .i64 x, .pointer a], .bool true]) ∧ More w w'
theorem tab_get_box (w : World) (b t : Nat) (L : List EntM) (room : Nat) (p : PrefM) (hp : p.addr.length = 7) (hT : TabA_box w b t L room) :
    Ret Tryz.prog 136 #[.pointer (some ⟨t, 0, none⟩), .agg p.cells.toArray] w (GetA_box L p w) := by
  obtain ⟨ls, h1, h2, h3⟩ := hT
  refine Calls.mono (table_get_box w b t ls room L.length p hp h1 h3) ?_
  rintro e w' ⟨v, rfl, h4, h5, hm⟩
  refine ⟨_, rfl, fun hn => h4 ?_, ?_, hm⟩
  · rcases Int.lt_or_le (findM ls p).1 0 with h6 | h6
    · exact h6
    · obtain ⟨u, hu⟩ := mem_keys.1 (h2.hit.1 h6)
      rw [get_some h2.sorted hu] at hn
      cases hn
  · intro x a hg
    have hk : p ∈ keysM L := by
      rcases Classical.em (p ∈ keysM L) with h6 | h6
      · exact h6
      · rw [get_none h6] at hg; cases hg
    obtain ⟨i, hi, hil, y, hy, hy1, hyp⟩ := find_hit h2.lpos (h2.hit.2 hk)
    have hu : (p, y.v) ∈ L := (h2.mem _ _).2 ⟨i, by rw [hy, ← hyp, ← hy1]⟩
    rw [get_some h2.sorted hu] at hg
    exact h5 i y hi hy x a (Option.some.inj hg)
theorem tab_del_box (w : World) (b t : Nat) (L : List EntM) (room : Nat) (p : PrefM) (hp : p.addr.length = 7) (hT : TabA_box w b t L room) (hr : room ≤ 64) :
    Ret Tryz.prog 196 #[.pointer (some ⟨t, 0, none⟩), .agg p.cells.toArray] w fun v w' => v = .bool (decide (p ∈ keysM L)) ∧ TabA_box w' b t (delL L p) room ∧ Mod (duoT b t) w w' := by
  obtain ⟨ls, h1, h2, h3⟩ := hT
  have hpos : p ∈ keysM L → 1 ≤ L.length := fun hk => by
    cases L with
    | nil => cases hk
    | cons => simp
  refine Calls.mono (table_del_box w b t ls room L.length p hp h1 hr h2.le (fun h => hpos (h2.hit.1 h))) ?_
  rintro e w' ⟨v, rfl, rfl, hT', hm⟩
  refine ⟨_, rfl, ?_⟩
  unfold delM at hT' ⊢
  have hdl := del_len h2.sorted p
  by_cases hk : p ∈ keysM L
  · rw [if_pos (h2.hit.2 hk)] at hT' ⊢
    rw [if_pos hk] at hdl
    by_cases h6 : L.length = 1
    · rw [if_pos h6] at hT' ⊢
      have hnil : delL L p = [] := List.eq_nil_of_length_eq_zero (by omega)
      rw [hnil]
      refine ⟨by rw [decide_eq_true hk], ⟨_, hT', by rw [h2.len]; exact TabRel.new room h2.pos [.int .i64 0, .pointer none], ?_⟩, hm⟩
      intro x hx
      rw [List.eq_of_mem_replicate hx]
      exact ⟨0, none, rfl⟩
    · rw [if_neg h6] at hT' ⊢
      exact ⟨by rw [decide_eq_true hk], ⟨_, by rw [hdl]; exact hT', h2.del [.int .i64 0, .pointer none] hk, set_typed h3 ⟨0, none, rfl⟩⟩, hm⟩
  · rw [if_neg (fun h => hk (h2.hit.1 h))] at hT' ⊢
    have hd : delL L p = L := by
      unfold delL
      rw [List.filter_eq_self]
      intro e he
      simp only [ne_eq, decide_eq_true_eq]
      exact fun e' => hk (mem_keys.2 ⟨e.2, by rw [← e']; exact he⟩)
    rw [hd]
    exact ⟨by rw [decide_eq_false hk], ⟨_, hT', h2, h3⟩, hm⟩
theorem tab_all_box (w : World) (b t : Nat) (L : List EntM) (room : Nat) (hT : TabA_box w b t L room) :
    Ret Tryz.prog 146 #[.pointer (some ⟨t, 0, none⟩)] w (AllA L w) := by
  obtain ⟨ls, h1, h2, h3⟩ := hT
  refine Calls.mono (table_all_box w b t ls room L.length h1) ?_
  rintro e w' ⟨v, rfl, A, c, rs, rfl, h4, h5, h6, h7, h8⟩
  obtain rfl := h2.all h4 h5
  exact ⟨_, rfl, A, c, rfl, h6, h7, h8⟩
set_option maxHeartbeats 4000000
structure BoxE where
  until_ : Int
  q : Nat
  tok : TokM
abbrev BoxL := List (PrefM × BoxE)
def entB (e : PrefM × BoxE) : EntM := (e.1, (fun x : BoxE => [Value.int .i64 x.until_, .pointer (some ⟨x.q, 0, none⟩)]) e.2)
theorem keys_entB (L : BoxL) : keysM (L.map entB) = keysM L := keys_map (fun x : BoxE => [Value.int .i64 x.until_, .pointer (some ⟨x.q, 0, none⟩)]) L
theorem get_entB (L : BoxL) (p : PrefM) : getL (L.map entB) p = (getL L p).map fun x => [Value.int .i64 x.until_, .pointer (some ⟨x.q, 0, none⟩)] := get_map (fun x : BoxE => [Value.int .i64 x.until_, .pointer (some ⟨x.q, 0, none⟩)]) L p
theorem del_entB (L : BoxL) (p : PrefM) : delL (L.map entB) p = (delL L p).map entB := del_map (fun x : BoxE => [Value.int .i64 x.until_, .pointer (some ⟨x.q, 0, none⟩)]) L p
theorem put_entB (L : BoxL) (p : PrefM) (x : BoxE) : putL (L.map entB) p [.int .i64 x.until_, .pointer (some ⟨x.q, 0, none⟩)] = (putL L p x).map entB := put_map (fun x : BoxE => [Value.int .i64 x.until_, .pointer (some ⟨x.q, 0, none⟩)]) L p x
structure OwnToks (w : World) (x b t : Nat) (L : BoxL) : Prop where
  tok : ∀ e ∈ L, Blk w e.2.q 341 e.2.tok.cells ∧ e.2.tok.Ok
  sep : ∀ e ∈ L, e.2.q ≠ b ∧ e.2.q ≠ t ∧ e.2.q ≠ x
  one : ∀ e ∈ L, ∀ e' ∈ L, e.2.q = e'.2.q → e = e'
theorem OwnToks.sub {w : World} {x b t : Nat} {L L' : BoxL} (h : OwnToks w x b t L) (hs : ∀ e ∈ L', e ∈ L) : OwnToks w x b t L' :=
  ⟨fun e he => h.tok e (hs e he), fun e he => h.sep e (hs e he), fun e he e' he' => h.one e (hs e he) e' (hs e' he')⟩
theorem OwnToks.mod {w w' : World} {S : Nat → Prop} {x b t : Nat} {L : BoxL} (h : OwnToks w x b t L) (hm : Mod S w w') (hS : ∀ e ∈ L, ¬ S e.2.q) : OwnToks w' x b t L :=
  ⟨fun e he => ⟨hm.blk (h.tok e he).1 (hS e he), (h.tok e he).2⟩, h.sep, h.one⟩
structure BoxW (w : World) (x b t room : Nat) (term rate burst : Int) (L : BoxL) : Prop where
  box : Blk w x 251 [.pointer (some ⟨t, 0, none⟩), .int .i64 term, .int .i64 rate, .int .i64 burst]
  tab : TabA_box w b t (L.map entB) room
  own : OwnToks w x b t L
  ne : x ≠ b ∧ x ≠ t
  room_le : room ≤ 64
  ok : boxOk room term rate burst
theorem BoxW.more {w w' : World} {x b t room : Nat} {term rate burst : Int} {L : BoxL} (h : BoxW w x b t room term rate burst L) (hm : More w w') : BoxW w' x b t room term rate burst L :=
  ⟨h.box.more hm, h.tab.more hm, h.own.mod (S := fun _ => False) (Mod.of_more hm) (fun _ _ h => h), h.ne, h.room_le, h.ok⟩
theorem BoxW.sorted {w : World} {x b t room : Nat} {term rate burst : Int} {L : BoxL} (h : BoxW w x b t room term rate burst L) : SortedM L := by
  have := h.tab.sorted
  unfold SortedM at this ⊢
  rwa [keys_entB] at this
theorem BoxW.plen {w : World} {x b t room : Nat} {term rate burst : Int} {L : BoxL} (h : BoxW w x b t room term rate burst L) : ∀ e ∈ L, e.1.addr.length = 7 := fun e he =>
  (h.tab.typed (p := (entB e).1) (v := (entB e).2) (List.mem_map.2 ⟨e, he, rfl⟩)).2
def EntF (B : Nat) (v : Value) (w : World) : Prop := ∃ r : Nat, v = .pointer (some ⟨r, 0, none⟩) ∧ B ≤ r ∧ ∃ cs, Blk w r 247 cs ∧ cs.length = 2
def aliveB (now : Int) (e : PrefM × BoxE) : Bool := decide (max now 0 < e.2.until_)
def sweepL (now : Int) (L : BoxL) : BoxL := L.filter (aliveB now)
def partL (now : Int) (L : BoxL) (k : Nat) : BoxL := (L.take k).filter (aliveB now) ++ L.drop k
theorem del_cut' {α : Type} {l : List (PrefM × α)} (hn : (keysM l).Nodup) {p : PrefM} {i : Nat} {e : PrefM × α} (he : l[i]? = some e) (hp : e.1 = p) : delL l p = l.take i ++ l.drop (i + 1) := by
  have hi : i < l.length := (List.getElem?_eq_some_iff.1 he).1
  have hsplit : l = l.take i ++ e :: l.drop (i + 1) := by
    conv => lhs; rw [← List.take_append_drop i l, List.drop_eq_getElem_cons hi]
    rw [List.getElem?_eq_getElem hi] at he
    rw [Option.some.inj he]
  have hno : ∀ (j : Nat) (d : PrefM × α), l[j]? = some d → j ≠ i → d.1 ≠ p := by
    intro j d hj hne hd
    have h1 : (keysM l)[i]? = some p := by unfold keysM; rw [List.getElem?_map, he]; simp [hp]
    have h2 : (keysM l)[j]? = some p := by unfold keysM; rw [List.getElem?_map, hj]; simp [hd]
    exact hne (((List.getElem?_inj (by unfold keysM; simpa using hi) hn).1 (h1.trans h2.symm)).symm)
  unfold delL
  conv => lhs; rw [hsplit]
  rw [List.filter_append, List.filter_cons_of_neg (by simp [hp])]
  congr 1
  · rw [List.filter_eq_self]
    intro d hd
    obtain ⟨j, hj⟩ := List.getElem?_of_mem hd
    have hjl : j < i := by have := (List.getElem?_eq_some_iff.1 hj).1; rw [List.length_take] at this; omega
    rw [List.getElem?_take, if_pos hjl] at hj
    simpa using hno j d hj (by omega)
  · rw [List.filter_eq_self]
    intro d hd
    obtain ⟨j, hj⟩ := List.getElem?_of_mem hd
    rw [List.getElem?_drop] at hj
    simpa using hno _ d hj (by omega)
def SweepJ (now : Int) (L : BoxL) (x b t room : Nat) (term rate burst : Int) (w : World) (v17 : Value) (w' : World) : Prop :=
  ∃ k : Nat, v17 = .int .i64 k ∧ k ≤ L.length ∧ BoxW w' x b t room term rate burst (partL now L k) ∧ Mod (duoT b t) w w'
def GetsB (w0 : World) (t : Nat) (p : PrefM) (V1 V2 : Value) (ok : Bool) : Prop :=
  ∀ w, More w0 w → Ret Tryz.prog 136 #[.pointer (some ⟨t, 0, none⟩), .agg p.cells.toArray] w fun v w' => v = .tuple #[.agg #[V1, V2], .bool ok] ∧ More w w'
theorem gets_some {w0 : World} {x b t room : Nat} {term rate burst : Int} {L : BoxL} {p : PrefM} {e : BoxE} (h : BoxW w0 x b t room term rate burst L) (hp : p.addr.length = 7) (hg : getL L p = some e) : GetsB w0 t p (.int .i64 e.until_) (.pointer (some ⟨e.q, 0, none⟩)) true := by
  intro w hm
  refine Calls.mono (tab_get_box w b t (L.map entB) room p hp (h.tab.more hm)) ?_
  rintro en w' ⟨v, rfl, _, h2, h3⟩
  exact ⟨v, rfl, h2 _ _ (by rw [get_entB, hg]; rfl), h3⟩
theorem gets_none {w0 : World} {x b t room : Nat} {term rate burst : Int} {L : BoxL} {p : PrefM} (h : BoxW w0 x b t room term rate burst L) (hp : p.addr.length = 7) (hg : getL L p = none) : GetsB w0 t p (.int .i64 0) (.pointer none) false := by
  intro w hm
  refine Calls.mono (tab_get_box w b t (L.map entB) room p hp (h.tab.more hm)) ?_
  rintro en w' ⟨v, rfl, h1, _, h3⟩
  exact ⟨v, rfl, h1 (by rw [get_entB, hg]; rfl), h3⟩
theorem box_sweep (w : World) (x b t room : Nat) (term rate burst : Int) (L : BoxL) (now : Int) (hB : BoxW w x b t room term rate burst L) :
    Ret Tryz.prog 135 #[.pointer (some ⟨x, 0, none⟩), .int .i64 now] w fun v w' => v = .bool true ∧ BoxW w' x b t room term rate burst (sweepL now L) ∧ Mod (duoT b t) w w' := by
  refine ret_of Tryz.func135 rfl (by kernel_rfl) (Nat.le_of_ble_eq_true (by kernel_rfl)) ?_
  have cx := hB.box.cell 0
  simp only [List.getElem?_cons_zero] at cx
  simp -implicitDefEqProofs (maxSteps := 1000000) only [↓zvN, zvU, ↓zvE, zvM, init, one, Value.cells, simprocAttr, tyF, cx]
  refine call_ok Tryz.call146 (tab_all_box w b t _ room hB.tab) ?_
  rintro _ w1 ⟨A, c, rfl, hA, hAb, hm1⟩
  rw [keys_entB] at hA ⊢
  have hbt := hB.tab.lt
  have hxl := hB.box.lt
  have hLr : L.length ≤ 64 := by have := hB.tab.le; have := hB.room_le; simp at *; omega
  have hkl : (keysM L).length = L.length := by unfold keysM; rw [List.length_map]
  have hpl := hB.plen
  have hkp : ∀ p ∈ keysM L, p.cells.length = 8 := fun p hp => by obtain ⟨u, hu⟩ := mem_keys.1 hp; have := hpl _ hu; simp [PrefM.cells, this]
  rw [hkl]
  simp -implicitDefEqProofs (maxSteps := 1000000) only [↓zvN, zvU, ↓zvE, zvM, init, one, Value.cells, simprocAttr, tyF]
  refine loop_p (6 :: 7 :: 8 :: List.range' 17 25) (fun e w' => SweepJ now L x b t room term rate burst w1 (e 17) w') (fun e _ => L.length - (numOf (e 17)).toNat) ?_ ?_
  · exact ⟨0, by simp only [hv_apply, up_apply, upO_some, upO_none, init, List.mem_cons, List.mem_range'_1, true_and, and_true, and_false, false_and, Nat.reduceLT, Nat.reduceLeDiff, Nat.reduceAdd, true_or, or_true, if_true, if_false, ↓reduceIte, Nat.reduceEqDiff, false_or, or_false, List.not_mem_nil, List.getElem?_cons_zero, List.getElem?_cons_succ, Option.getD_some] <;> rfl, by omega, by simpa [partL] using hB.more hm1, Mod.refl _ _⟩
  rintro v w2 ⟨k, h17, hk, hB2, hm2⟩
  simp only [hv_apply, up_apply, upO_some, upO_none, init, List.mem_cons, List.mem_range'_1, true_and, and_true, and_false, false_and, Nat.reduceLT, Nat.reduceLeDiff, Nat.reduceAdd, true_or, or_true, if_true, if_false, ↓reduceIte, Nat.reduceEqDiff, false_or, or_false, List.not_mem_nil, List.getElem?_cons_zero, List.getElem?_cons_succ, Option.getD_some] at h17
  have ek : IntKind.i64.wrap ((k : Int) + 1) = ((k + 1 : Nat) : Int) := w64 (by omega) (by omega)
  simp -implicitDefEqProofs (maxSteps := 1000000) only [↓zvN, zvU, ↓zvE, zvM, init, one, Value.cells, simprocAttr, tyF, h17]
  refine ⟨fun h9 => ?_, fun h9 => ?_⟩
  rotate_left
  · obtain rfl : k = L.length := by omega
    have e : partL now L L.length = sweepL now L := by unfold partL sweepL; rw [List.take_length, List.drop_length, List.append_nil]
    rw [e] at hB2
    exact ⟨rfl, hB2, (Mod.of_more hm1).trans hm2⟩
  obtain ⟨e, he⟩ := row_nat L k (by omega)
  have hel := List.mem_of_getElem? he
  have hep := hpl e hel
  have hke : (keysM L)[k]? = some e.1 := by unfold keysM; rw [List.getElem?_map, he]; rfl
  obtain ⟨ad, rfl⟩ := hA.some_of (by rw [row_len _ hkp]; omega)
  have hA2 : Cs w2 (some ad) ((keysM L).flatMap PrefM.cells) := hm2.cs hA (fun a ha => by have := hAb a ha; rintro (h | h) <;> omega)
  have rd := hA2.rowEq hkp hke
  have g0 : (0 : Int) ≤ (k : Int) := by omega
  simp -implicitDefEqProofs (maxSteps := 1000000) only [↓zvN, zvU, ↓zvE, zvM, init, one, Value.cells, simprocAttr, tyF, h17, g0, h9, rd, Int.toNat_natCast, zerPref]
  have hm3 := more_alloc w2 (.cells prefZ.cells.toArray 37)
  have hb3 := Blk.new w2 37 prefZ.cells.toArray
  obtain ⟨w3, hw3⟩ : ∃ w3, w2.alloc (.cells prefZ.cells.toArray 37) = w3 := ⟨_, rfl⟩
  rw [hw3] at hm3 hb3 ⊢
  clear hw3
  have h8 : e.1.cells.length = 8 := by simp [PrefM.cells, hep]
  refine st_all hb3 (by simpa using h8) rfl (by simpa using PrefM.one e.1) fun w4 j1 j2 => ?_
  rw [s2_undef]
  rw [List.toList_toArray] at j2
  have hm4 : More w2 w4 := more_but hm3 (But.of_wr j1) (Nat.le_refl _)
  obtain ⟨pb, hpb⟩ : ∃ q, w2.heap.size = q := ⟨_, rfl⟩
  rw [hpb] at j2 ⊢
  have hB4 := hB2.more hm4
  have hpn : ¬ duoT b t pb := by have := hB2.tab.lt; rintro (h | h) <;> omega
  have hsrt := hB2.sorted
  have hin : e ∈ partL now L k := List.mem_append.2 (.inr (by rw [List.drop_eq_getElem_cons (by omega)]; rw [List.getElem?_eq_getElem (by omega)] at he; rw [Option.some.inj he]; exact List.mem_cons_self ..))
  have hge : getL (partL now L k) e.1 = some e.2 := get_some hsrt hin
  have hget := gets_some hB4 hep hge
  have cx4 := hB4.box.cell 0
  simp only [List.getElem?_cons_zero] at cx4
  have lx4 := hB4.box.lt
  have v4 := j2.all_eq 8 h8
  have l4 := j2.lt
  simp -implicitDefEqProofs (maxSteps := 1000000) only [↓zvN, zvU, ↓zvE, zvM, init, one, Value.cells, simprocAttr, tyF, p_nil]
  refine draw_name fun K hK => ?_
  refine draw_finH 247 [.int .i64 e.2.until_, .pointer (some ⟨e.2.q, 0, none⟩)] 11 [[], [0], [0, 1], [0, 1, 2], [], [0, 1, 2, 3, 4], [0, 1, 2, 3, 4, 5], [0, 1, 2, 3, 4, 5, 6], [0, 1, 2, 3, 4, 5, 6], [], [0, 1, 2, 3, 4, 5, 6, 7, 9], [0, 1, 2, 3, 4, 5, 6, 7, 8, 9, 10]]
    [(5, fun _ v _ => v = .tuple #[.agg #[.int .i64 e.2.until_, .pointer (some ⟨e.2.q, 0, none⟩)], .bool true]), (9, fun _ v w' => EntF w4.heap.size v w'), (10, fun g _ w' => ∀ r, g[0]? = some (.pointer (some ⟨r, 0, none⟩)) → Blk w' r 247 [.int .i64 e.2.until_, .pointer (some ⟨e.2.q, 0, none⟩)])] mixed (by kernel_rfl) (by kernel_rfl) ?_ ?_
  · intro y hy g v a b hab
    simp only [List.mem_cons, List.not_mem_nil, or_false] at hy
    rcases hy with rfl | rfl | rfl
    · exact fun h => h
    · rintro ⟨r, rfl, h1, h2⟩
      exact ⟨r, rfl, h1, hab.some h2⟩
    · intro h r hr
      exact hab.done (h r hr)
  simp -implicitDefEqProofs (maxSteps := 1000000) only [↓zvN, zvU, ↓zqD, ↓h_cons, ↓hs_guard, ↓hs_none, ↓h_some, ↓hs_nil, ↓lookH_nil, ↓lookH_cons, ↓given_store, ↓zvE, zvM, init, one, Value.cells, simprocAttr, tyF, cx4, lx4, v4, l4]
  refine ⟨fun w5 hf5 => ?_, ?_⟩
  · refine call_ok Tryz.call136 (hget w5 hf5.below) ?_
    rintro _ w6 ⟨rfl, hm6⟩
    simp -implicitDefEqProofs (maxSteps := 1000000) only [↓zvN, zvU, ↓zqD, ↓h_cons, ↓hs_guard, ↓hs_none, ↓h_some, ↓hs_nil, ↓lookH_nil, ↓lookH_cons, ↓given_store, ↓zvE, zvM, init, one, Value.cells, simprocAttr, tyF]
    exact Fin.of_more hm6 hf5.below.size
  rintro _ ⟨w5, hf5, rfl⟩
  simp -implicitDefEqProofs (maxSteps := 1000000) only [↓zvN, zvU, ↓zqD, ↓h_cons, ↓hs_guard, ↓hs_none, ↓h_some, ↓hs_nil, ↓lookH_nil, ↓lookH_cons, ↓given_store, ↓zvE, zvM, init, one, Value.cells, simprocAttr, tyF, zerEntry]
  refine ⟨fun w6 hf6 => ?_, ?_⟩
  · have hle := hf6.below.size
    have hmm := more_alloc w6 (.cells #[.int .i64 0, .pointer none] 247)
    exact ⟨Fin.of_more hmm hle, w6.heap.size, rfl, hle, _, Blk.new .., rfl⟩
  rintro _ ⟨w6, hf6, r, rfl, hr, _⟩
  simp -implicitDefEqProofs (maxSteps := 1000000) only [↓zvN, zvU, ↓zqD, ↓h_cons, ↓hs_guard, ↓hs_none, ↓h_some, ↓hs_nil, ↓lookH_nil, ↓lookH_cons, ↓given_store, ↓zvE, zvM, init, one, Value.cells, simprocAttr, tyF]
  refine ⟨fun w7 hf7 hd7 => ?_, ?_⟩
  · obtain ⟨r', er, _, cs, hcs, hcl⟩ := hd7
    cases er
    refine st_all hcs rfl hcl (by intro u hu; simp at hu; rcases hu with rfl | rfl <;> rfl) fun w8 k1 k2 => ?_
    refine ⟨Fin.of_wr k1 hcs k2 hr, fun r1 h1 => ?_⟩
    cases h1
    exact k2
  rintro _ ⟨w7, hf7, _, _⟩
  rw [stop1]
  simp -implicitDefEqProofs (maxSteps := 1000000) only [↓zvN, zvU, ↓zqD, ↓h_cons, ↓hs_guard, ↓hs_none, ↓h_some, ↓hs_nil, ↓lookH_nil, ↓lookH_cons, ↓given_store, ↓zvE, zvM, init, one, Value.cells, simprocAttr, tyF]
  intro w8 hf8 hd8
  have hb8 : Blk w8 r 247 [.int .i64 e.2.until_, .pointer (some ⟨e.2.q, 0, none⟩)] := (by
    first
    | exact hd8 r rfl
    | exact hd8.1 r rfl
    | exact hd8.2 r rfl
    | exact hd8.2.1 r rfl
    | exact hd8.2.2 r rfl)
  have hm8 : More w4 w8 := hf8.below
  try simp -implicitDefEqProofs (maxSteps := 1000000) only [↓zvN, zvU, ↓zvE, zvM, init, one, Value.cells, simprocAttr, tyF, p_nil]
  refine hK _ _ ?_
  clear hK K
  have c0 : w8.cell? ⟨r, 0, none⟩ = some (.int .i64 e.2.until_) := by rw [hb8.cell]; rfl
  have emax : (if now < 0 then (0 : Int) else now) = max now 0 := by split <;> omega
  have hB8 := hB4.more hm8
  have hdrop : L.drop k = e :: L.drop (k + 1) := by
    rw [List.drop_eq_getElem_cons (by omega)]
    congr 1
    rw [List.getElem?_eq_getElem (by omega)] at he
    exact Option.some.inj he
  have htake : L.take (k + 1) = L.take k ++ [e] := by rw [List.take_add_one, he]; rfl
  have hm28 : Mod (duoT b t) w1 w8 := hm2.trans (Mod.of_more (hm4.trans hm8))
  by_cases hal : e.2.until_ ≤ max now 0
  · have hpart : partL now L (k + 1) = delL (partL now L k) e.1 := by
      have hsp : partL now L k = (L.take k).filter (aliveB now) ++ e :: L.drop (k + 1) := by unfold partL; rw [hdrop]
      rw [del_cut' (l := partL now L k) (i := ((L.take k).filter (aliveB now)).length) (e := e) hsrt.nodup (by rw [hsp]; simp) rfl, hsp]
      unfold partL
      rw [htake, List.filter_append, List.filter_cons_of_neg (by unfold aliveB; simp; omega)]
      simp
    have cx8 := hB8.box.cell 0
    simp only [List.getElem?_cons_zero] at cx8
    have lx8 := hB8.box.lt
    have v8 := (j2.more hm8).all_eq 8 h8
    have l8 := (j2.more hm8).lt
    simp -implicitDefEqProofs (maxSteps := 1000000) only [↓zvN, zvU, ↓zvE, zvM, init, one, Value.cells, simprocAttr, tyF, c0, emax, hal]
    refine draw_seen 5 [[], [0], [0, 1], [0, 1, 2], [], [0, 1, 2, 3, 4]] (RV.look []) mixed (by kernel_rfl) (by kernel_rfl) (look_keeps _ (by simp)) ?_
    simp -implicitDefEqProofs (maxSteps := 1000000) only [↓zvN, zvU, ↓zqD, ↓zvE, zvM, init, one, Value.cells, simprocAttr, tyF, cx8, lx8, v8, l8]
    intro w9 hm9
    try simp -implicitDefEqProofs (maxSteps := 1000000) only [↓zvN, zvU, ↓zvE, zvM, init, one, Value.cells, simprocAttr, tyF, p_nil]
    have hB9 := hB8.more hm9
    refine call_ok Tryz.call196 (tab_del_box w9 b t _ room e.1 hep hB9.tab hB9.room_le) ?_
    rintro _ w10 ⟨rfl, hT10, hm10⟩
    rw [del_entB, ← hpart] at hT10
    have hB10 : BoxW w10 x b t room term rate burst (partL now L (k + 1)) :=
      ⟨hm10.blk hB9.box (by rintro (h | h); exact hB9.ne.1 h; exact hB9.ne.2 h), hT10,
       (hB9.own.mod hm10 (fun d hd => by have := hB9.own.sep d hd; rintro (h | h); exact this.1 h; exact this.2.1 h)).sub (fun d hd => by rw [hpart] at hd; exact (List.mem_filter.1 hd).1), hB9.ne, hB9.room_le, hB9.ok⟩
    simp -implicitDefEqProofs (maxSteps := 1000000) only [↓zvN, zvU, ↓zvE, zvM, init, one, Value.cells, simprocAttr, tyF, p_nil, h17, ek]
    refine ⟨⟨?_, k + 1, rfl, by omega, hB10, (hm28.trans (Mod.of_more hm9)).trans hm10⟩, by simp only [numOf]; omega⟩
    repeat (first | exact Same.hv _ _ _ | refine Same.up (by simp) ?_)
  · have hpart : partL now L (k + 1) = partL now L k := by
      unfold partL
      rw [htake, List.filter_append, List.filter_cons_of_pos (by unfold aliveB; simp; omega), hdrop]
      simp
    simp -implicitDefEqProofs (maxSteps := 1000000) only [↓zvN, zvU, ↓zvE, zvM, init, one, Value.cells, simprocAttr, tyF, c0, emax, hal, h17, ek]
    refine ⟨⟨?_, k + 1, rfl, by omega, by rw [hpart]; exact hB8, hm28⟩, by simp only [numOf]; omega⟩
    repeat (first | exact Same.hv _ _ _ | refine Same.up (by simp) ?_)
end Go.Proofs.YtofhbonnojooeaaGreat

