/-
  Texts that the law stands on, part 17.
-/
import Derived.Test.YtofhbonnojooeaaGreatKPoliceBoxed16
namespace Go.Proofs.YtofhbonnojooeaaGreat
open Go Go.RowKit Go.Proofs.RV
set_option linter.unusedSimpArgs false
set_option linter.unusedVariables false
set_option maxRecDepth 10000
set_option maxHeartbeats 4000000
theorem flat_rep {M : Type} {E : M → List Value} {s : Nat} (m0 : M) (h : (E m0).length = s) (h0 : 0 < s) (n : Nat) : (Builtin.zeroCells (E m0).toArray n).toList = (List.replicate n m0).flatMap E := by
  rw [← made_row m0 h h0 _ rfl n]
  simp only [Builtin.zeroCells, madeCells, List.size_toArray, h]
theorem clear_row {P : Program} {t e e' ty : TypeId} {z : Value} {size bytes b n c : Nat} {W : World} {cs : List Value} {M : Type} {E : M → List Value} {K : Value → World → Prop} (m0 : M) (ht : P.underlying t = some (.slice e)) (hE : ElemT P e z size bytes) (hz : z.cells = (E m0).toArray) (hm : (E m0).length = size) (h0 : 0 < size)
    (h1 : ∀ u ∈ E m0, u.oneCell' = true) (hb : Blk W b e' cs) (hcs : cs.length = n * size) (hn : 0 < n)
    (hK : ∀ w', Wr b W w' → Blk w' b e' ((List.replicate n m0).flatMap E) → K (.tuple #[]) w') : runP P (Builtin.clear_ #[t] ty #[.slice (some ⟨b, 0, none⟩) n c]) W K := by
  obtain ⟨i, hi, hzi, hs, hby⟩ := info_parts hE
  have hzc := flat_rep m0 hm h0 n
  rw [← hz] at hzc
  have hl : ((List.replicate n m0).flatMap E).length = n * size := by
    rw [row_len (E := E) (s := size) _ (fun m hm' => by rw [List.eq_of_mem_replicate hm']; exact hm), List.length_replicate]
  have hst := run_storeCells_cells (P := P) b 0 ((List.replicate n m0).flatMap E) 0 W (fun j hj => by rw [hb.cell, List.getElem?_eq_getElem (by omega)]; rfl) (fun j hj => hb.frozen _)
    (fun v hv => by obtain ⟨m, hm', hv'⟩ := List.mem_flatMap.1 hv; rw [List.eq_of_mem_replicate hm'] at hv'; exact h1 v hv')
  have hzero : (zeroValue e).run P W = .ok z W := by
    exact zero_run (by unfold zer; rw [hi]; exact hzi) W
  have hr : (Builtin.clear_ #[t] ty #[.slice (some ⟨b, 0, none⟩) n c]).run P W = .ok (.tuple #[]) (W.setCells b 0 ((List.replicate n m0).flatMap E)) := by
    obtain ⟨k, rfl⟩ : ∃ k, n = k + 1 := ⟨n - 1, by omega⟩
    simp only [Nat.add_zero] at hst
    simp [Builtin.clear_, run_underlying ht, hzero, hzc, hst]
  refine ⟨_, _, hr, hK _ (wr_setCells b _ 0 W) ?_⟩
  have h2 := Blk.sets ((List.replicate n m0).flatMap E) 0 W cs hb
  rw [splice_eq _ _ _ (by omega), List.take_zero, List.nil_append, List.drop_eq_nil_of_le (by omega), List.append_nil] at h2
  exact h2
def putM (ls : List PlaceM) (room n : Nat) (p : PrefM) (vs : List Value) : List PlaceM × Nat × Bool :=
  if 0 ≤ (findM ls p).1 then (ls.set (findM ls p).1.toNat ⟨1, p, vs⟩, n, true)
  else if n = room then (ls, n, false) else (ls.set (findM ls p).2.toNat ⟨1, p, vs⟩, n + 1, true)
def duoT (b t : Nat) (k : Nat) : Prop := k = b ∨ k = t
theorem set_ok {s i : Nat} {ls : List PlaceM} {x : PlaceM} (h : TabOk s ls) (hx : PlOk s x) : TabOk s (ls.set i x) := by
  intro y hy
  rcases List.mem_or_eq_of_mem_set hy with h1 | rfl
  · exact h y h1
  · exact hx
theorem place_splice {y : PlaceM} {s : Nat} {p : PrefM} {vs : List Value} (hy : PlOk s y) (h1 : y.state = 1) (h2 : y.p = p) (hl : 9 + vs.length = s) : splice y.cells 9 vs = (PlaceM.mk 1 p vs).cells := by
  have hp : p.addr.length = 7 := by rw [← h2]; exact hy.pre
  have hlen := hy.len
  obtain ⟨st, q, v⟩ := y
  simp only at h1 h2
  subst h1 h2
  have h8 : q.cells.length = 8 := by simp [PrefM.cells, hp]
  simp only [PlaceM.cells, List.length_cons, List.length_append, h8] at hlen ⊢
  rw [splice_eq _ _ _ (by simp only [List.length_cons, List.length_append, h8]; omega), List.drop_eq_nil_of_le (by simp only [List.length_cons, List.length_append, h8]; omega), List.append_nil]
  simp only [List.take_succ_cons, List.take_append_of_le_length (show 8 ≤ q.cells.length by omega)]
  rw [List.take_of_length_le (by omega), List.cons_append]
theorem st_part2 {w : World} {b e i s n : Nat} {ms : List PlaceM} {y : PlaceM} {p : PrefM} {vs : Array Value} {K : World → Prop} (hb : Blk w b e (ms.flatMap PlaceM.cells)) (hok : TabOk s ms) (hy : ms[i]? = some y) (h1 : y.state = 1) (h2 : y.p = p) (hn : vs.size = n) (hl : 9 + n = s) (hv : ∀ u ∈ vs.toList, u.oneCell' = true)
    (hK : ∀ w', Wr b w w' → Blk w' b e ((ms.set i ⟨1, p, vs.toList⟩).flatMap PlaceM.cells) → K w') : stRow n vs ⟨b, i * s + 9, none⟩ w K := by
  have hlt : i < ms.length := (List.getElem?_eq_some_iff.1 hy).1
  refine st_row hb hn (by have := row_fits ms hok.lens hlt; omega) hv fun w' j1 j2 => hK w' j1 ?_
  rw [row_part hok.lens hy (by simp [hn]; omega) (place_splice (hok y (List.mem_of_getElem? hy)) h1 h2 (by simp [hn]; omega))] at j2
  exact j2
theorem TabW.put {w w' : World} {T E s b t i : Nat} {ls : List PlaceM} {room n : Nat} {x : PlaceM} (h : TabW w T E s b t ls room n) (hw : Wr b w w') (hb : Blk w' b E ((ls.set i x).flatMap PlaceM.cells)) (hx : PlOk s x) : TabW w' T E s b t (ls.set i x) room n :=
  ⟨hb, by rw [List.length_set]; exact (hw.block t (fun e => h.ne e.symm)).trans h.tab, h.ne, set_ok h.ok hx, by rw [List.length_set]; exact h.pos, by rw [List.length_set]; exact h.le⟩
theorem TabW.cnt {w w' : World} {T E s b t : Nat} {ls : List PlaceM} {room n n' : Nat} (h : TabW w T E s b t ls room n) (hw : Wr t w w') (hb : Blk w' t T [.slice (some ⟨b, 0, none⟩) ls.length ls.length, .int .i64 room, .int .i64 n']) : TabW w' T E s b t ls room n' :=
  ⟨(hw.block b h.ne).trans h.row, hb, h.ne, h.ok, h.pos, h.le⟩
def delM (ls : List PlaceM) (n : Nat) (p : PrefM) (z : List Value) : List PlaceM × Nat × Bool :=
  if 0 ≤ (findM ls p).1 then (if n = 1 then (List.replicate ls.length ⟨0, prefZ, z⟩, 0, true) else (ls.set (findM ls p).1.toNat ⟨2, prefZ, z⟩, n - 1, true)) else (ls, n, false)
theorem zerEntry : zer Tryz.prog 247 = some (.agg #[.int .i64 0, .pointer none]) := by rw [zer247]
theorem plOk_box {p : PrefM} (hp : p.addr.length = 7) (st : Int) (x : Int) (a : Option Addr) : PlOk 11 ⟨st, p, [.int .i64 x, .pointer a]⟩ := ⟨by simp [PlaceM.cells, PrefM.cells, hp], hp, by intro u hu; simp at hu; rcases hu with rfl | rfl <;> rfl⟩
theorem place_build_box (p : PrefM) (x : Int) (a : Option Addr) (hp : p.addr.length = 7) (w0 : World) (K : Value → Prop) :
    pureP Tryz.prog (Instr.build 344 #[(0, .int .i64 1), (1, .agg p.cells.toArray), (2, .agg #[.int .i64 x, .pointer a])]) K = K (.agg (PlaceM.mk 1 p [.int .i64 x, .pointer a]).cells.toArray) := by
  have h8 : p.cells.length = 8 := by simp [PrefM.cells, hp]
  have pl : PlacesOk (placeOf Tryz.prog 344) 0 0 ([[.int .i64 1], p.cells, [.int .i64 x, .pointer a]]) := by
    simp only [PlacesOk, placeOf, Tryz.underlying344, List.getElem?_toArray, List.getElem?_cons_zero, List.getElem?_cons_succ, Option.map_some, cells3, cells37, cells247, List.length_cons, h8, List.length_nil, Nat.reduceAdd, Nat.zero_add, and_self]
  have b := build_all (P := Tryz.prog) (T := 344) [.int .i64 1, .agg p.cells.toArray, .agg #[.int .i64 x, .pointer a]] (out := (PlaceM.mk 1 p [.int .i64 x, .pointer a]).cells) (by kernel_rfl) zerPlace_box (by simpa [Value.cells] using pl)
    (by simp [Value.cells, PlaceM.cells, prefZ, noBytes, h8, PrefM.cells, hp]) (by simp [Value.cells, PlaceM.cells]) w0 K
  simp only [pairs, Nat.zero_add, Nat.reduceAdd] at b
  exact b
def GetR_box (ls : List PlaceM) (p : PrefM) (w : World) (v : Value) (w' : World) : Prop :=
  ((findM ls p).1 < 0 → v = .tuple #[.agg #[.int .i64 0, .pointer none], .bool false]) ∧ (∀ (i : Nat) (y : PlaceM), (findM ls p).1 = i → ls[i]? = some y → ∀ (x : Int) (a : Option Addr), y.v = [.int .i64 x, .pointer a] → v = .tuple #[.agg #[.int .i64 x, .pointer a], .bool true]) ∧ More w w'
theorem table_get_box (w : World) (b t : Nat) (ls : List PlaceM) (room n : Nat) (p : PrefM) (hp : p.addr.length = 7) (hT : TabW w 338 344 11 b t ls room n) (hk : ∀ y ∈ ls, ∃ (x : Int) (a : Option Addr), y.v = [.int .i64 x, .pointer a]) :
    Ret Tryz.prog 136 #[.pointer (some ⟨t, 0, none⟩), .agg p.cells.toArray] w (GetR_box ls p w) := by
  refine ret_of Tryz.func136 rfl (by kernel_rfl) (Nat.le_of_ble_eq_true (by kernel_rfl)) ?_
  have hm0 := more_alloc w (.cells p.cells.toArray 37)
  have hb0 := Blk.new w 37 p.cells.toArray
  simp -implicitDefEqProofs (maxSteps := 1000000) only [↓zvN, zvU, ↓zvE, zvM, init, one, Value.cells, simprocAttr, tyF, zerEntry]
  obtain ⟨w0, hw0⟩ : ∃ w0, w.alloc (.cells p.cells.toArray 37) = w0 := ⟨_, rfl⟩
  rw [hw0] at hm0 hb0 ⊢
  clear hw0
  rw [List.toList_toArray] at hb0
  obtain ⟨pb, hpb⟩ : ∃ q, w.heap.size = q := ⟨_, rfl⟩
  rw [hpb] at hb0 ⊢
  have hpl : p.cells.length = 8 := by simp [PrefM.cells, hp]
  have hm1' := more_alloc w0 (.cells #[.int .i64 0, .pointer none] 247)
  have hr0' := Blk.new w0 247 #[.int .i64 0, .pointer none]
  obtain ⟨w1, hw1⟩ : ∃ w1, w0.alloc (.cells #[.int .i64 0, .pointer none] 247) = w1 := ⟨_, rfl⟩
  rw [hw1] at hm1' hr0' ⊢
  clear hw1
  obtain ⟨rb, hrb⟩ : ∃ q, w0.heap.size = q := ⟨_, rfl⟩
  have hrl : w.heap.size ≤ rb := by rw [← hrb]; exact hm0.size
  rw [hrb] at hr0' ⊢
  rw [List.toList_toArray] at hr0'
  have hm1 := hm0.trans hm1'
  have hb1 := hb0.more hm1'
  have v1 := hb1.all_eq 8 hpl
  simp -implicitDefEqProofs (maxSteps := 1000000) only [↓zvN, zvU, ↓zvE, zvM, init, one, Value.cells, simprocAttr, tyF, v1]
  refine call_ok Tryz.call201 (table_find_box w1 b t ls room n p hp (hT.more hm1)) ?_
  rintro _ w2 ⟨rfl, hm2⟩
  have hm12 := hm1.trans hm2
  have hT2 := hT.more hm12
  have hlen := hT.le
  have c0 := hT2.tab.cell 0
  simp only [List.getElem?_cons_zero, List.getElem?_cons_succ] at c0
  by_cases h1 : (findM ls p).1 < 0
  · simp -implicitDefEqProofs (maxSteps := 1000000) only [↓zvN, zvU, ↓zvE, zvM, init, one, Value.cells, simprocAttr, tyF, h1, zerEntry]
    have hr2 := (hr0'.more hm2)
    have hm3 := more_alloc w2 (.cells #[.int .i64 0, .pointer none] 247)
    have hb3 := Blk.new w2 247 #[.int .i64 0, .pointer none]
    obtain ⟨w3, hw3⟩ : ∃ w3, w2.alloc (.cells #[.int .i64 0, .pointer none] 247) = w3 := ⟨_, rfl⟩
    rw [hw3] at hm3 hb3 ⊢
    clear hw3
    have v3 := hb3.all_eq 2 rfl
    simp -implicitDefEqProofs (maxSteps := 1000000) only [↓zvN, zvU, ↓zvE, zvM, init, one, Value.cells, simprocAttr, tyF, v3]
    refine st_all (hr2.more hm3) rfl rfl (by intro u hu; simp at hu; rcases hu with rfl | rfl <;> rfl) fun w4 j1 j2 => ?_
    rw [s2_undef]
    have v4 := j2.all_eq 2 rfl
    simp -implicitDefEqProofs (maxSteps := 1000000) only [↓zvN, zvU, ↓zvE, zvM, init, one, Value.cells, simprocAttr, tyF, v4]
    refine ⟨fun _ => rfl, fun i y hi _ => ?_, more_but (hm12.trans hm3) (But.of_wr j1) hrl⟩
    omega
  · obtain ⟨i, hi, hil, y, hy, hy1, hyp⟩ := find_hit (p := p) hT.pos (by omega)
    have g0 : (0 : Int) ≤ (i : Int) := by omega
    have g1 : (i : Int) < (ls.length : Int) := by omega
    obtain ⟨x, a, hv⟩ := hk y (List.mem_of_getElem? hy)
    have h9 : ∀ K : Value → Prop, ldRow (11 - 9) ⟨b, i * 11 + 9, none⟩ w2 K = K (.agg [.int .i64 x, .pointer a].toArray) := fun K => by
      have hyo := hT2.ok y (List.mem_of_getElem? hy)
      have h8 : y.p.cells.length = 8 := by simp [PrefM.cells, hyo.pre]
      refine ldRow_eq (cs := [.int .i64 x, .pointer a]) rfl (fun j hj => ?_) K
      have hj' : j < 11 - 9 := hj
      rw [add_mk, show i * 11 + 9 + j = i * 11 + (9 + j) by omega, blk_elemC (j := 9 + j) hT2.row hT2.ok.lens hy (by omega), PlaceM.cells, show 9 + j = (8 + j) + 1 by omega, List.getElem?_cons_succ, List.getElem?_append_right (by omega), h8, hv, show 8 + j - 8 = j by omega]
    have hc9 : w2.cell? ⟨b, i * 11 + 9, none⟩ = [.int .i64 x, .pointer a][0]? := by
      have hyo := hT2.ok y (List.mem_of_getElem? hy)
      have h8 : y.p.cells.length = 8 := by simp [PrefM.cells, hyo.pre]
      rw [blk_elemC (j := 9) hT2.row hT2.ok.lens hy (by omega), PlaceM.cells, show (9 : Nat) = 8 + 1 from rfl, List.getElem?_cons_succ, List.getElem?_append_right (by omega), h8, hv]
    simp only [Nat.reduceSub, List.getElem?_cons_zero] at h9 hc9
    have g2 : ¬ (i : Int) < 0 := by omega
    simp -implicitDefEqProofs (maxSteps := 1000000) only [↓zvN, zvU, ↓zvE, zvM, init, one, Value.cells, simprocAttr, tyF, hi, c0, g0, g1, g2, hil, h9, hc9, Int.toNat_natCast]
    refine st_all (hr0'.more hm2) rfl rfl (by intro u hu; simp at hu; rcases hu with rfl | rfl <;> rfl) fun w4 j1 j2 => ?_
    rw [s2_undef]
    have v4 := j2.all_eq 2 rfl
    simp -implicitDefEqProofs (maxSteps := 1000000) only [↓zvN, zvU, ↓zvE, zvM, init, one, Value.cells, simprocAttr, tyF, v4]
    refine ⟨fun h => by omega, fun i' y' hi' hy' x' a' hx' => ?_, more_but hm12 (But.of_wr j1) hrl⟩
    obtain rfl : i' = i := by omega
    rw [hy] at hy'
    cases hy'
    rw [hv] at hx'
    cases hx'
    rfl
theorem zplace_build_box (w0 : World) (K : Value → Prop) : pureP Tryz.prog (Instr.build 344 #[(0, .int .i64 2)]) K = K (.agg (PlaceM.mk 2 prefZ [.int .i64 0, .pointer none]).cells.toArray) :=
  build_of (PlaceM.mk 2 prefZ [.int .i64 0, .pointer none]).cells (by kernel_rfl) zerPlace_box (by kernel_rfl) w0 K
theorem zplOk_box (st : Int) : PlOk 11 ⟨st, prefZ, [.int .i64 0, .pointer none]⟩ := ⟨rfl, rfl, by intro u hu; simp at hu; rcases hu with rfl | rfl <;> rfl⟩
theorem table_del_box (w : World) (b t : Nat) (ls : List PlaceM) (room n : Nat) (p : PrefM) (hp : p.addr.length = 7) (hT : TabW w 338 344 11 b t ls room n) (hr : room ≤ 64) (hn : n ≤ room) (h0 : 0 ≤ (findM ls p).1 → 1 ≤ n) :
    Ret Tryz.prog 196 #[.pointer (some ⟨t, 0, none⟩), .agg p.cells.toArray] w fun v w' => v = .bool (delM ls n p [.int .i64 0, .pointer none]).2.2 ∧ TabW w' 338 344 11 b t (delM ls n p [.int .i64 0, .pointer none]).1 room (delM ls n p [.int .i64 0, .pointer none]).2.1 ∧ Mod (duoT b t) w w' := by
  refine ret_of Tryz.func196 rfl (by kernel_rfl) (Nat.le_of_ble_eq_true (by kernel_rfl)) ?_
  have hm1 := more_alloc w (.cells p.cells.toArray 37)
  have hb1 := Blk.new w 37 p.cells.toArray
  simp -implicitDefEqProofs (maxSteps := 1000000) only [↓zvN, zvU, ↓zvE, zvM, init, one, Value.cells, simprocAttr, tyF]
  obtain ⟨w1, hw1⟩ : ∃ w1, w.alloc (.cells p.cells.toArray 37) = w1 := ⟨_, rfl⟩
  rw [hw1] at hm1 hb1 ⊢
  clear hw1
  rw [List.toList_toArray] at hb1
  obtain ⟨pb, hpb⟩ : ∃ q, w.heap.size = q := ⟨_, rfl⟩
  rw [hpb] at hb1 ⊢
  have hpl : p.cells.length = 8 := by simp [PrefM.cells, hp]
  have v1 := hb1.all_eq 8 hpl
  simp -implicitDefEqProofs (maxSteps := 1000000) only [↓zvN, zvU, ↓zvE, zvM, init, one, Value.cells, simprocAttr, tyF, v1]
  refine call_ok Tryz.call201 (table_find_box w1 b t ls room n p hp (hT.more hm1)) ?_
  rintro _ w2 ⟨rfl, hm2⟩
  have hm12 := hm1.trans hm2
  have hT2 := hT.more hm12
  have hlen := hT.le
  have c0 := hT2.tab.cell 0
  have c2 := hT2.tab.cell 2
  simp only [List.getElem?_cons_zero, List.getElem?_cons_succ] at c0 c2
  by_cases h1 : 0 ≤ (findM ls p).1
  · obtain ⟨i, hi, hil, y, hy, hy1, hyp⟩ := find_hit hT.pos h1
    obtain ⟨m, rfl⟩ : ∃ m, n = m + 1 := ⟨n - 1, by have := h0 h1; omega⟩
    have g0 : (0 : Int) ≤ (i : Int) := by omega
    have g1 : (i : Int) < (ls.length : Int) := by omega
    have g2 : ¬ (i : Int) < 0 := by omega
    have bd := zplace_build_box w2
    simp -implicitDefEqProofs (maxSteps := 1000000) only [↓zvN, zvU, ↓zvE, zvM, init, one, Value.cells, simprocAttr, tyF, hi, c0, g0, g1, g2, hil, bd, Int.toNat_natCast]
    have hxo := zplOk_box 2
    refine st_row hT2.row (by simpa using hxo.len) (by exact row_fits ls hT2.ok.lens hil) (by simpa using hxo.ones) fun w3 j1 j2 => ?_
    rw [List.toList_toArray, row_set ls hT2.ok.lens i _ hxo.len hil] at j2
    have hT3 := hT2.put j1 j2 hxo
    rw [s2_undef]
    have d2 := hT3.tab.cell 2
    simp only [List.getElem?_cons_zero, List.getElem?_cons_succ] at d2
    have en : IntKind.i64.wrap (((m + 1 : Nat) : Int) - 1) = (m : Int) := by rw [show ((m + 1 : Nat) : Int) - 1 = (m : Int) by omega]; exact w64 (by omega) (by omega)
    simp -implicitDefEqProofs (maxSteps := 1000000) only [↓zvN, zvU, ↓zvE, zvM, init, one, Value.cells, simprocAttr, tyF, d2, en]
    refine st_cell hT3.tab (by simp) rfl fun w4 k1 k2 => ?_
    rw [s2_undef]
    have hT4 := hT3.cnt (n' := m) k1 k2
    have e2 := hT4.tab.cell 2
    have e0 := hT4.tab.cell 0
    simp only [List.getElem?_cons_zero, List.getElem?_cons_succ] at e2 e0
    have hm14 : Mod (duoT b t) w w4 := ((Mod.of_more hm12).trans (Mod.of_wr j1 (.inl rfl))).trans (Mod.of_wr k1 (.inr rfl))
    by_cases h5 : m = 0
    · subst h5
      have e : delM ls (0 + 1) p [.int .i64 0, .pointer none] = (List.replicate ls.length ⟨0, prefZ, [.int .i64 0, .pointer none]⟩, 0, true) := by unfold delM; rw [if_pos h1, if_pos rfl]
      rw [e]
      simp -implicitDefEqProofs (maxSteps := 1000000) only [↓zvN, zvU, ↓zvE, zvM, init, one, Value.cells, simprocAttr, tyF, e2, e0]
      have hxz := zplOk_box 0
      refine clear_row (size := 11) (E := PlaceM.cells) (PlaceM.mk 0 prefZ [.int .i64 0, .pointer none]) Tryz.underlying336 placeE_box rfl hxz.len (by omega) hxz.ones hT4.row (by rw [row_len _ hT4.ok.lens]) hT4.pos fun w5 i1 i2 => ?_
      try simp -implicitDefEqProofs (maxSteps := 1000000) only [↓zvN, zvU, ↓zvE, zvM, init, one, Value.cells, simprocAttr, tyF]
      refine ⟨⟨by rw [List.length_set] at i2; exact i2, ?_, hT.ne, ?_, by rw [List.length_replicate]; exact hT.pos, by rw [List.length_replicate]; exact hT.le⟩, hm14.trans (Mod.of_wr i1 (.inl rfl))⟩
      · have := (i1.block t (fun e => hT.ne e.symm)).trans hT4.tab
        rw [List.length_set] at this
        rw [List.length_replicate]
        exact this
      · intro x hx
        rw [List.eq_of_mem_replicate hx]
        exact hxz
    · have e : delM ls (m + 1) p [.int .i64 0, .pointer none] = (ls.set i ⟨2, prefZ, [.int .i64 0, .pointer none]⟩, m, true) := by unfold delM; rw [if_pos h1, if_neg (by omega), hi]; rfl
      rw [e]
      have h5I : ¬ (m : Int) = 0 := by omega
      simp -implicitDefEqProofs (maxSteps := 1000000) only [↓zvN, zvU, ↓zvE, zvM, init, one, Value.cells, simprocAttr, tyF, e2, e0, h5, h5I]
      exact ⟨hT4, hm14⟩
  · have e : delM ls n p [.int .i64 0, .pointer none] = (ls, n, false) := by unfold delM; rw [if_neg h1]
    rw [e]
    have g2 : (findM ls p).1 < 0 := by omega
    simp -implicitDefEqProofs (maxSteps := 1000000) only [↓zvN, zvU, ↓zvE, zvM, init, one, Value.cells, simprocAttr, tyF, g2]
    exact ⟨hT2, Mod.of_more hm12⟩
theorem table_put_box (w : World) (b t : Nat) (ls : List PlaceM) (room n : Nat) (p : PrefM) (x : Int) (a : Option Addr) (hp : p.addr.length = 7) (hT : TabW w 338 344 11 b t ls room n) (hr : room ≤ 64) (hn : n ≤ room)
    (hs : (findM ls p).1 < 0 → n ≠ room → ∃ i : Nat, (findM ls p).2 = i ∧ i < ls.length) :
    Ret Tryz.prog 139 #[.pointer (some ⟨t, 0, none⟩), .agg p.cells.toArray, .agg #[.int .i64 x, .pointer a]] w fun v w' => v = .bool (putM ls room n p [.int .i64 x, .pointer a]).2.2 ∧ TabW w' 338 344 11 b t (putM ls room n p [.int .i64 x, .pointer a]).1 room (putM ls room n p [.int .i64 x, .pointer a]).2.1 ∧ Mod (duoT b t) w w' := by
  refine ret_of Tryz.func139 rfl (by kernel_rfl) (Nat.le_of_ble_eq_true (by kernel_rfl)) ?_
  have hpl : p.cells.length = 8 := by simp [PrefM.cells, hp]
  have hm1a := more_alloc w (.cells p.cells.toArray 37)
  have hb1a := Blk.new w 37 p.cells.toArray
  have s1 := size_alloc w (.cells p.cells.toArray 37)
  have hm1b := more_alloc (w.alloc (.cells p.cells.toArray 37)) (.cells #[.int .i64 x, .pointer a] 247)
  have hr1 := Blk.new (w.alloc (.cells p.cells.toArray 37)) 247 #[.int .i64 x, .pointer a]
  have hb1 := hb1a.more hm1b
  have hm1 := hm1a.trans hm1b
  rw [s1] at hr1
  rw [List.toList_toArray] at hb1 hr1
  have v1 := hb1.all_eq 8 hpl
  simp -implicitDefEqProofs (maxSteps := 1000000) only [↓zvN, zvU, ↓zvE, zvM, init, one, Value.cells, simprocAttr, tyF]
  simp -implicitDefEqProofs (maxSteps := 1000000) only [↓zvN, zvU, ↓zvE, zvM, init, one, Value.cells, simprocAttr, tyF, v1, s1]
  obtain ⟨w1, hw1⟩ : ∃ w1, (w.alloc (.cells p.cells.toArray 37)).alloc (.cells #[.int .i64 x, .pointer a] 247) = w1 := ⟨_, rfl⟩
  rw [hw1] at hm1 hb1 hr1 ⊢
  clear hw1 v1 hm1a hb1a hm1b
  obtain ⟨pb, hpb⟩ : ∃ q, w.heap.size = q := ⟨_, rfl⟩
  rw [hpb] at hb1 hr1 s1 ⊢
  refine call_ok Tryz.call201 (table_find_box w1 b t ls room n p hp (hT.more hm1)) ?_
  rintro _ w2 ⟨rfl, hm2⟩
  have hm12 := hm1.trans hm2
  have hT2 := hT.more hm12
  have hlen := hT.le
  have c0 := hT2.tab.cell 0
  have c1 := hT2.tab.cell 1
  have c2 := hT2.tab.cell 2
  simp only [List.getElem?_cons_zero, List.getElem?_cons_succ] at c0 c1 c2
  by_cases h1 : 0 ≤ (findM ls p).1
  · obtain ⟨i, hi, hil, y, hy, hy1, hyp⟩ := find_hit hT.pos h1
    have e : putM ls room n p [.int .i64 x, .pointer a] = (ls.set i ⟨1, p, [.int .i64 x, .pointer a]⟩, n, true) := by unfold putM; rw [if_pos h1, hi]; rfl
    rw [e]
    have g0 : (0 : Int) ≤ (i : Int) := by omega
    have g1 : (i : Int) < (ls.length : Int) := by omega
    have hyo := hT.ok y (List.mem_of_getElem? hy)
    simp -implicitDefEqProofs (maxSteps := 1000000) only [↓zvN, zvU, ↓zvE, zvM, init, one, Value.cells, simprocAttr, tyF, hi, g0]
    have hr2 := hr1.more hm2
    have v2 := hr2.all_eq 2 rfl
    have htl := hT2.tab.lt
    have hrl := hr2.lt
    refine draw_name fun K hK => ?_
    refine draw_seen 6 [[], [0], [0, 1], [0, 1, 2], [], [], [0, 1, 2, 3, 4, 5], [0, 1, 2, 3, 4, 5, 6], [0, 1, 2, 3, 4, 5, 6, 7]] (RV.look []) mixed (by kernel_rfl) (by kernel_rfl) (look_keeps _ (by simp)) ?_
    simp -implicitDefEqProofs (maxSteps := 1000000) only [↓zvN, zvU, ↓zqD, ↓zvE, zvM, init, one, Value.cells, simprocAttr, tyF, s1, c0, htl, hrl, v2, hi, g0, g1, hil, Int.toNat_natCast]
    intro w4 hm4
    have hT4 := hT2.more hm4
    try simp -implicitDefEqProofs (maxSteps := 1000000) only [↓zvN, zvU, ↓zvE, zvM, init, one, Value.cells, simprocAttr, tyF, p_nil, hi, g0, g1, hil, Int.toNat_natCast]
    refine st_part2 (vs := #[.int .i64 x, .pointer a]) hT4.row hT4.ok hy hy1 hyp rfl rfl (by intro u hu; simp at hu; rcases hu with rfl | rfl <;> rfl) fun w3 j1 j2 => ?_
    rw [s2_undef]
    try simp -implicitDefEqProofs (maxSteps := 1000000) only [↓zvN, zvU, ↓zvE, zvM, init, one, Value.cells, simprocAttr, tyF]
    refine hK _ _ ?_
    simp -implicitDefEqProofs (maxSteps := 1000000) only [↓zvN, zvU, ↓zvE, zvM, init, one, Value.cells, simprocAttr, tyF]
    exact ⟨hT4.put j1 j2 (plOk_box hp 1 x a), (Mod.of_more (hm12.trans hm4)).trans (Mod.of_wr j1 (.inl rfl))⟩
  · by_cases h2 : n = room
    · have e : putM ls room n p [.int .i64 x, .pointer a] = (ls, n, false) := by unfold putM; rw [if_neg h1, if_pos h2]
      rw [e]
      have h2I : (n : Int) = (room : Int) := by omega
      simp -implicitDefEqProofs (maxSteps := 1000000) only [↓zvN, zvU, ↓zvE, zvM, init, one, Value.cells, simprocAttr, tyF, h1]
      refine draw_calm mixed (by kernel_rfl) ?_
      simp -implicitDefEqProofs (maxSteps := 1000000) only [↓zvN, zvU, ↓zqD, ↓zvE, zvM, init, one, Value.cells, simprocAttr, tyF, c1, c2, h1, h2I]
      intro w3 hm3
      try simp -implicitDefEqProofs (maxSteps := 1000000) only [↓zvN, zvU, ↓zvE, zvM, init, one, Value.cells, simprocAttr, tyF, h1, h2I]
      exact ⟨hT2.more hm3, Mod.of_more (hm12.trans hm3)⟩
    · obtain ⟨i, hi, hil⟩ := hs (by omega) h2
      have e : putM ls room n p [.int .i64 x, .pointer a] = (ls.set i ⟨1, p, [.int .i64 x, .pointer a]⟩, n + 1, true) := by unfold putM; rw [if_neg h1, if_neg h2, hi]; rfl
      rw [e]
      have h2I : ¬ (n : Int) = (room : Int) := by omega
      simp -implicitDefEqProofs (maxSteps := 1000000) only [↓zvN, zvU, ↓zvE, zvM, init, one, Value.cells, simprocAttr, tyF, h1]
      refine draw_calm mixed (by kernel_rfl) ?_
      simp -implicitDefEqProofs (maxSteps := 1000000) only [↓zvN, zvU, ↓zqD, ↓zvE, zvM, init, one, Value.cells, simprocAttr, tyF, c1, c2, h1, h2I]
      intro w3 hm3
      have hT3 := hT2.more hm3
      have c0 := hT3.tab.cell 0
      simp only [List.getElem?_cons_zero] at c0
      have htl := hT3.tab.lt
      have v3 := (hb1.more (hm2.trans hm3)).all_eq 8 hpl
      have hbl := (hb1.more (hm2.trans hm3)).lt
      have g0 : (0 : Int) ≤ (i : Int) := by omega
      have g1 : (i : Int) < (ls.length : Int) := by omega
      have v3' := (hr1.more (hm2.trans hm3)).all_eq 2 rfl
      have hrl := (hr1.more (hm2.trans hm3)).lt
      have bd := place_build_box p x a hp w3
      refine draw_name fun K hK => ?_
      refine draw_seen 8 [[], [0], [0, 1], [0, 1, 2], [], [], [], [5, 6], [0, 1, 2, 3, 4, 5, 6, 7], [0, 1, 2, 3, 4, 5, 6, 7, 8]] (RV.look []) mixed (by kernel_rfl) (by kernel_rfl) (look_keeps _ (by simp)) ?_
      simp -implicitDefEqProofs (maxSteps := 1000000) only [↓zvN, zvU, ↓zqD, ↓zvE, zvM, init, one, Value.cells, simprocAttr, tyF, s1, c0, htl, v3, v3', hrl, hbl, g0, g1, hil, hi, bd, Int.toNat_natCast]
      intro w4 hm4
      have hT4 := hT3.more hm4
      have hxo := plOk_box hp 1 x a
      try simp -implicitDefEqProofs (maxSteps := 1000000) only [↓zvN, zvU, ↓zvE, zvM, init, one, Value.cells, simprocAttr, tyF, p_nil, hi, g0, g1, hil, Int.toNat_natCast]
      refine st_row hT4.row (by simpa using hxo.len) (by exact row_fits ls hT4.ok.lens hil) (by simpa using hxo.ones) fun w5 j1 j2 => ?_
      rw [List.toList_toArray, row_set ls hT4.ok.lens i _ hxo.len hil] at j2
      have hT5 := hT4.put j1 j2 hxo
      rw [s2_undef]
      try simp -implicitDefEqProofs (maxSteps := 1000000) only [↓zvN, zvU, ↓zvE, zvM, init, one, Value.cells, simprocAttr, tyF]
      refine hK _ _ ?_
      have d2 := hT5.tab.cell 2
      simp only [List.getElem?_cons_zero, List.getElem?_cons_succ] at d2
      have en : IntKind.i64.wrap ((n : Int) + 1) = ((n + 1 : Nat) : Int) := w64 (by omega) (by omega)
      simp -implicitDefEqProofs (maxSteps := 1000000) only [↓zvN, zvU, ↓zvE, zvM, init, one, Value.cells, simprocAttr, tyF, d2, en]
      refine st_cell hT5.tab (by simp) rfl fun w6 k1 k2 => ?_
      rw [s2_undef]
      simp -implicitDefEqProofs (maxSteps := 1000000) only [↓zvN, zvU, ↓zvE, zvM, init, one, Value.cells, simprocAttr, tyF]
      exact ⟨hT5.cnt k1 k2, ((Mod.of_more ((hm12.trans hm3).trans hm4)).trans (Mod.of_wr j1 (.inl rfl))).trans (Mod.of_wr k1 (.inr rfl))⟩

def thr (k : Nat) : Bool := k == 4 || k == 5 || k == 12 || k == 13 || k == 16

theorem flow_in {w : World} {k : Nat} {x : Array Value} (h : Lays Tryz.prog w k 34 x.toList) : ∃ f : FlowM, x = f.cells.toArray ∧ f.Fit := by
  have hl := (h.field Tryz.underlying34).1
  obtain ⟨_, f0⟩ := h.fieldAt Tryz.underlying34 0 4 0 rfl cells4
  obtain ⟨_, f1⟩ := h.fieldAt Tryz.underlying34 1 5 1 rfl cells5
  obtain ⟨_, f2⟩ := h.fieldAt Tryz.underlying34 2 24 2 rfl cells24
  obtain ⟨_, f3⟩ := h.fieldAt Tryz.underlying34 3 24 18 rfl cells24
  obtain ⟨_, f4⟩ := h.fieldAt Tryz.underlying34 4 32 34 rfl cells32
  obtain ⟨_, f5⟩ := h.fieldAt Tryz.underlying34 5 32 35 rfl cells32
  obtain ⟨t, e0⟩ := f0.bool Tryz.underlying4
  obtain ⟨p, e1, r1⟩ := f1.int Tryz.underlying5
  obtain ⟨s, l2, e2⟩ := f2.bytes Tryz.underlying24 Tryz.underlying5 cells5 cells24
  obtain ⟨d, l3, e3⟩ := f3.bytes Tryz.underlying24 Tryz.underlying5 cells5 cells24
  obtain ⟨sp, e4, r4⟩ := f4.int Tryz.underlying32
  obtain ⟨dp, e5, r5⟩ := f5.int Tryz.underlying32
  rw [cells34] at hl
  refine ⟨⟨t, p, s, d, sp, dp⟩, ?_, ?_⟩
  · have e : x.toList = [Value.bool t] ++ ([Value.int .u8 p] ++ (s.map byteV ++ (d.map byteV ++ ([Value.int .u16 sp] ++ [Value.int .u16 dp])))) := by
      rw [← e0, ← e1, ← e2, ← e3, ← e4, ← e5, ← List.drop_zero (l := x.toList), List.drop_zero]
      conv => lhs; rw [← List.drop_zero (l := x.toList), cut_at _ 0 1, cut_at _ (0 + 1) 1, cut_at _ (0 + 1 + 1) 16, cut_at _ (0 + 1 + 1 + 16) 16, cut_at _ (0 + 1 + 1 + 16 + 16) 1, cut_at _ (0 + 1 + 1 + 16 + 16 + 1) 1]
      rw [List.drop_eq_nil_of_le (i := 0 + 1 + 1 + 16 + 16 + 1 + 1) (by omega), List.append_nil]
    apply Array.ext'
    rw [e]
    simp [FlowM.cells]
  · simp [IntKind.min, IntKind.max, IntKind.signed, IntKind.bits] at r1 r4 r5
    exact ⟨r1.1, by show p < 256; omega, l2, l3, r4.1, by show sp < 65536; omega, r5.1, by show dp < 65536; omega⟩
def inI (x : Int) : Prop := -9223372036854775808 ≤ x ∧ x ≤ 9223372036854775807
theorem cfg_in {w : World} {k : Nat} {x : Array Value} (h : Lays Tryz.prog w k 23 x.toList) : ∃ c : List Int, x = (ints c).toArray ∧ c.length = 20 ∧ ∀ y ∈ c, inI y := by
  have hl := (h.field Tryz.underlying23).1
  rw [cells23] at hl
  have hf : ∀ i, i < 20 → ∃ y, (x.toList.drop i).take 1 = [.int .i64 y] ∧ IntKind.i64.min ≤ y ∧ y ≤ IntKind.i64.max := by
    intro i hi
    match i, hi with
    | 0, _ => obtain ⟨_, f⟩ := h.fieldAt Tryz.underlying23 0 3 0 rfl cells3; exact f.int Tryz.underlying3
    | 1, _ => obtain ⟨_, f⟩ := h.fieldAt Tryz.underlying23 1 3 1 rfl cells3; exact f.int Tryz.underlying3
    | 2, _ => obtain ⟨_, f⟩ := h.fieldAt Tryz.underlying23 2 3 2 rfl cells3; exact f.int Tryz.underlying3
    | 3, _ => obtain ⟨_, f⟩ := h.fieldAt Tryz.underlying23 3 3 3 rfl cells3; exact f.int Tryz.underlying3
    | 4, _ => obtain ⟨_, f⟩ := h.fieldAt Tryz.underlying23 4 3 4 rfl cells3; exact f.int Tryz.underlying3
    | 5, _ => obtain ⟨_, f⟩ := h.fieldAt Tryz.underlying23 5 3 5 rfl cells3; exact f.int Tryz.underlying3
    | 6, _ => obtain ⟨_, f⟩ := h.fieldAt Tryz.underlying23 6 3 6 rfl cells3; exact f.int Tryz.underlying3
    | 7, _ => obtain ⟨_, f⟩ := h.fieldAt Tryz.underlying23 7 3 7 rfl cells3; exact f.int Tryz.underlying3
    | 8, _ => obtain ⟨_, f⟩ := h.fieldAt Tryz.underlying23 8 2 8 rfl cells2; exact f.int Tryz.underlying2
    | 9, _ => obtain ⟨_, f⟩ := h.fieldAt Tryz.underlying23 9 2 9 rfl cells2; exact f.int Tryz.underlying2
    | 10, _ => obtain ⟨_, f⟩ := h.fieldAt Tryz.underlying23 10 2 10 rfl cells2; exact f.int Tryz.underlying2
    | 11, _ => obtain ⟨_, f⟩ := h.fieldAt Tryz.underlying23 11 2 11 rfl cells2; exact f.int Tryz.underlying2
    | 12, _ => obtain ⟨_, f⟩ := h.fieldAt Tryz.underlying23 12 2 12 rfl cells2; exact f.int Tryz.underlying2
    | 13, _ => obtain ⟨_, f⟩ := h.fieldAt Tryz.underlying23 13 2 13 rfl cells2; exact f.int Tryz.underlying2
    | 14, _ => obtain ⟨_, f⟩ := h.fieldAt Tryz.underlying23 14 2 14 rfl cells2; exact f.int Tryz.underlying2
    | 15, _ => obtain ⟨_, f⟩ := h.fieldAt Tryz.underlying23 15 2 15 rfl cells2; exact f.int Tryz.underlying2
    | 16, _ => obtain ⟨_, f⟩ := h.fieldAt Tryz.underlying23 16 2 16 rfl cells2; exact f.int Tryz.underlying2
    | 17, _ => obtain ⟨_, f⟩ := h.fieldAt Tryz.underlying23 17 2 17 rfl cells2; exact f.int Tryz.underlying2
    | 18, _ => obtain ⟨_, f⟩ := h.fieldAt Tryz.underlying23 18 2 18 rfl cells2; exact f.int Tryz.underlying2
    | 19, _ => obtain ⟨_, f⟩ := h.fieldAt Tryz.underlying23 19 2 19 rfl cells2; exact f.int Tryz.underlying2
    | n + 20, hi => omega
  obtain ⟨l, h1, h2, h3⟩ := ints_of 20 x.toList hl hf
  refine ⟨l, ?_, h1, fun y hy => ?_⟩
  · apply Array.ext'
    rw [h2]
    rfl
  · have := h3 y hy
    simp [IntKind.min, IntKind.max, IntKind.signed, IntKind.bits] at this
    unfold inI; omega
end Go.Proofs.YtofhbonnojooeaaGreat

