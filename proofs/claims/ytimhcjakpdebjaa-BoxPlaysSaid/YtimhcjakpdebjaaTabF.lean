/-
  Layer 21: where a prefix is in a table, and where it might go.
-/
import Derived.Test.YtimhcjakpdebjaaSipB
namespace Go.Proofs.Ytimhcjakpdebjaa
open Go Go.RowKit Go.Proofs.RV
set_option linter.unusedSimpArgs false
set_option linter.unusedVariables false
set_option maxRecDepth 10000
set_option maxHeartbeats 4000000
theorem blk_elem {M : Type} {E : M → List Value} {s b e i : Nat} {w : World} {ms : List M} {m : M} (hb : Blk w b e (ms.flatMap E)) (h : ∀ m ∈ ms, (E m).length = s) (hi : ms[i]? = some m) (K : Value → Prop) :
    ldRow s ⟨b, i * s, none⟩ w K = K (.agg (E m).toArray) := by
  have hlt : i < ms.length := (List.getElem?_eq_some_iff.1 hi).1
  rw [hb.row_eq (i * s) s (row_fits ms h hlt), row_cut ms h i m hi]
theorem blk_elemC {M : Type} {E : M → List Value} {s b e i j : Nat} {w : World} {ms : List M} {m : M} (hb : Blk w b e (ms.flatMap E)) (h : ∀ m ∈ ms, (E m).length = s) (hi : ms[i]? = some m) (hj : j < s) :
    w.cell? ⟨b, i * s + j, none⟩ = (E m)[j]? := by
  rw [hb.cell, row_cell ms h i m j hi hj]
theorem Blk.own {w : World} {b e : Nat} {cs : List Value} (h : Blk w b e cs) : b < w.heap.size := h.lt
instance : DecidableEq PrefM := fun a b => decidable_of_iff (a.v6 = b.v6 ∧ a.addr = b.addr) ⟨fun h => by cases a; cases b; simp_all, fun h => by subst h; exact ⟨rfl, rfl⟩⟩
/-- where a prefix begins -/
def hashM (p : PrefM) (n : Nat) : Nat := (sipM (noBytes 16) (pkey p)).toNat % n
def scanM (ls : List PlaceM) (p : PrefM) (fr : Nat) : Nat → Nat → Int → Int × Int
  | 0, _, s => (-1, s)
  | f + 1, k, s => match ls[(fr + k) % ls.length]? with
    | none => (-1, s)
    | some x => if x.state = 1 ∧ x.p = p then ((((fr + k) % ls.length : Nat) : Int), s) else
      let s' := if x.state ≠ 1 ∧ s < 0 then (((fr + k) % ls.length : Nat) : Int) else s
      if x.state = 0 then (-1, s') else scanM ls p fr f (k + 1) s'
def findM (ls : List PlaceM) (p : PrefM) : Int × Int := scanM ls p (hashM p ls.length) ls.length 0 (-1)
/-- places of so many cells each, of prefixes that are some -/
structure PlOk (s : Nat) (x : PlaceM) : Prop where
  len : x.cells.length = s
  pre : x.p.addr.length = 7
  one : ∀ u ∈ x.v, u.oneCell' = true
theorem PlOk.ones {s : Nat} {x : PlaceM} (h : PlOk s x) : ∀ u ∈ x.cells, u.oneCell' = true := by
  intro u hu
  simp only [PlaceM.cells, List.mem_cons, List.mem_append] at hu
  rcases hu with rfl | hu | hu
  · rfl
  · exact PrefM.one _ u hu
  · exact h.one u hu
abbrev TabOk (s : Nat) (ls : List PlaceM) : Prop := ∀ x ∈ ls, PlOk s x
theorem TabOk.lens {s : Nat} {ls : List PlaceM} (h : TabOk s ls) : ∀ x ∈ ls, x.cells.length = s := fun x hx => (h x hx).len
/-- the row of places, the table -/
structure TabW (w : World) (T E s b t : Nat) (ls : List PlaceM) (room n : Nat) : Prop where
  row : Blk w b E (ls.flatMap PlaceM.cells)
  tab : Blk w t T [.slice (some ⟨b, 0, none⟩) ls.length ls.length, .int .i64 room, .int .i64 n]
  ne : b ≠ t
  ok : TabOk s ls
  pos : 0 < ls.length
  le : ls.length ≤ 128
theorem TabW.more {w w' : World} {T E s b t : Nat} {ls : List PlaceM} {room n : Nat} (h : TabW w T E s b t ls room n) (hm : More w w') : TabW w' T E s b t ls room n :=
  ⟨h.row.more hm, h.tab.more hm, h.ne, h.ok, h.pos, h.le⟩
theorem zerKey : zer Try.prog 129 = some (.agg ((noBytes 16).map byteV).toArray) := by rw [zer129]; rfl
theorem key0 (w0 : World) (K : Value → Prop) : pureP Try.prog (Instr.build 129 #[]) K = K (.agg ((noBytes 16).map byteV).toArray) := build_arrE (out := (noBytes 16).map byteV) Try.underlying129 cells5 (by decide) zerKey rfl w0 K
theorem bytesE : ElemT Try.prog 87 (.slice none 0 0) 1 24 := by unfold ElemT; kernel_rfl
def FindJ (ls : List PlaceM) (p : PrefM) (w : World) (v6 v30 : Value) (w' : World) : Prop :=
  ∃ (k : Nat) (s : Int), v30 = .int .i64 k ∧ k ≤ ls.length ∧ v6 = .int .i64 s ∧ scanM ls p (hashM p ls.length) (ls.length - k) k s = findM ls p ∧ More w w'
theorem zerPlace_int : zer Try.prog 95 = some (.agg (PlaceM.mk 0 prefZ [.int .i64 0]).cells.toArray) := by rw [zer95]; rfl
theorem table_find_int (w : World) (b t : Nat) (ls : List PlaceM) (room n : Nat) (p : PrefM) (hp : p.addr.length = 7) (hT : TabW w 91 95 10 b t ls room n) :
    Ret Try.prog 45 #[.pointer (some ⟨t, 0, none⟩), .agg p.cells.toArray] w fun v w' => v = .tuple #[.int .i64 (findM ls p).1, .int .i64 (findM ls p).2] ∧ More w w' := by
  refine ret_of Try.func45 rfl (by kernel_rfl) (Nat.le_of_ble_eq_true (by kernel_rfl)) ?_
  have hm1 := more_alloc w (.cells p.cells.toArray 24)
  have hb1 := Blk.new w 24 p.cells.toArray
  have s1 := size_alloc w (.cells p.cells.toArray 24)
  simp (config := {maxSteps := 1000000}) only [↓zvN, zvU, ↓up_apply, ↓hv_apply, ↓upO_some, ↓upO_none, ↓ev_tmp, ↓ev_const, ↓ev_func, ↓ev_global, init, Nat.reduceEqDiff, Nat.reduceAdd, Nat.reduceMul, Nat.reduceSub, ↓reduceIte, Int.reduceEq, Int.reduceNe, Nat.reduceLeDiff, one, Value.cells, Int.reduceLE, Int.reduceLT, Int.reduceToNat, add_mk, reduceCtorEq, List.mem_range'_1, true_and, and_true, and_false, false_and, Nat.reduceLT, Nat.reduceLeDiff, tyF]
  generalize w.alloc (.cells p.cells.toArray 24) = w1 at hm1 hb1 s1 ⊢
  rw [List.toList_toArray] at hb1
  obtain ⟨pb, hpb⟩ : ∃ q, w.heap.size = q := ⟨_, rfl⟩
  rw [hpb] at hb1 s1 ⊢
  have hT1 := hT.more hm1
  have hpl : p.cells.length = 8 := by simp [PrefM.cells, hp]
  have v1 := hb1.all_eq 8 hpl
  have c0 := hT1.tab.cell 0
  simp only [List.getElem?_cons_zero] at c0
  have htl := hT1.tab.lt
  refine draw_line w1.heap.size More [0, 0, 1, 1, 1, 0, 0, 0, 0, 0, 0, 0, 0] [[], [], [1], [1, 2], [0, 1, 2, 3], [], [5], [5, 6], [5, 6, 7], [5, 6, 7, 8], [5, 6, 7, 8, 9], [0, 1, 2, 3, 4, 5, 6, 7, 8, 9, 10], [0, 1, 2, 3, 4, 5, 6, 7, 8, 9, 10, 11]] mixed (by kernel_rfl) (by kernel_rfl) (More.refl _) (fun w' h => h) (fun w' h => h) ?_
  intro w2 hm2
  simp (config := {maxSteps := 1000000}) only [↓zvN, zvU, ↓zqD, ↓sk_nil, ↓sk_cons, ↓sk_guard, ↓sk_zero, ↓sk_one, ↓sk_two, ↓up_apply, ↓hv_apply, ↓upO_some, ↓upO_none, ↓ev_tmp, ↓ev_const, ↓ev_func, ↓ev_global, init, Nat.reduceEqDiff, Nat.reduceAdd, Nat.reduceMul, Nat.reduceSub, ↓reduceIte, Int.reduceEq, Int.reduceNe, Nat.reduceLeDiff, one, Value.cells, Int.reduceLE, Int.reduceLT, Int.reduceToNat, add_mk, reduceCtorEq, List.mem_range'_1, true_and, and_true, and_false, false_and, Nat.reduceLT, Nat.reduceLeDiff, tyF, v1, s1, c0, htl, key0 w1]
  refine call_ok Try.call44 (table_bytesOf w2 p hp) ?_
  rintro _ w3 ⟨g, c, rfl, hg, hB3, hc3, hm3⟩
  have hm13 := hm2.trans hm3.1
  simp (config := {maxSteps := 1000000}) only [↓zvN, zvU, ↓zqD, ↓sk_nil, ↓sk_cons, ↓sk_guard, ↓sk_zero, ↓sk_one, ↓sk_two, ↓up_apply, ↓hv_apply, ↓upO_some, ↓upO_none, ↓ev_tmp, ↓ev_const, ↓ev_func, ↓ev_global, init, Nat.reduceEqDiff, Nat.reduceAdd, Nat.reduceMul, Nat.reduceSub, ↓reduceIte, Int.reduceEq, Int.reduceNe, Nat.reduceLeDiff, one, Value.cells, Int.reduceLE, Int.reduceLT, Int.reduceToNat, add_mk, reduceCtorEq, List.mem_range'_1, true_and, and_true, and_false, false_and, Nat.reduceLT, Nat.reduceLeDiff, tyF]
  refine ⟨hm13, ?_⟩
  refine bslice (z := .slice none 0 0) (cells := #[.slice (some ⟨g, 0, none⟩) 8 c]) Try.underlying141 bytesE (by omega) (by have := bcells_list (z := .slice none 0 0) [.slice (some ⟨g, 0, none⟩) 8 c] (by intro v hv; simp at hv; subst hv; rfl); exact this) ?_
  have hm4 := more_alloc w3 (.cells #[.slice (some ⟨g, 0, none⟩) 8 c] 87)
  have hb4 := Blk.new w3 87 #[.slice (some ⟨g, 0, none⟩) 8 c]
  generalize w3.alloc (.cells #[.slice (some ⟨g, 0, none⟩) 8 c] 87) = w4 at hm4 hb4 ⊢
  have hm14 := hm13.trans hm4
  simp (config := {maxSteps := 1000000}) only [↓zvN, zvU, ↓zqD, ↓sk_nil, ↓sk_cons, ↓sk_guard, ↓sk_zero, ↓sk_one, ↓sk_two, ↓up_apply, ↓hv_apply, ↓upO_some, ↓upO_none, ↓ev_tmp, ↓ev_const, ↓ev_func, ↓ev_global, init, Nat.reduceEqDiff, Nat.reduceAdd, Nat.reduceMul, Nat.reduceSub, ↓reduceIte, Int.reduceEq, Int.reduceNe, Nat.reduceLeDiff, one, Value.cells, Int.reduceLE, Int.reduceLT, Int.reduceToNat, add_mk, reduceCtorEq, List.mem_range'_1, true_and, and_true, and_false, false_and, Nat.reduceLT, Nat.reduceLeDiff, tyF]
  refine ⟨hm14, ?_⟩
  have hsum := sip_sum w4 (noBytes 16) (some ⟨w3.heap.size, 0, none⟩) [⟨some ⟨g, 0, none⟩, pkey p, c⟩] 1 rfl (by have := hb4.cs; simpa [PartM.cell, pkey_len hp] using this) (by intro x hx; simp at hx; subst hx; exact hB3.more hm4) (by simp [joinP, pkey_len hp]) (by simp)
  rw [show joinP [⟨some ⟨g, 0, none⟩, pkey p, c⟩] = pkey p by simp [joinP]] at hsum
  have hrg := sipM_range (noBytes 16) (pkey p)
  have hhash : hashM p ls.length = (sipM (noBytes 16) (pkey p)).toNat % ls.length := rfl
  obtain ⟨x, hx⟩ : ∃ x, x = sipM (noBytes 16) (pkey p) := ⟨_, rfl⟩
  rw [← hx] at hsum hrg hhash
  clear hx
  refine call_ok Try.call64 hsum ?_
  rintro _ w5 ⟨rfl, hm5⟩
  have hm15 := hm14.trans hm5
  have hpos := hT.pos
  have hle := hT.le
  have eu : IntKind.u64.wrap (ls.length : Int) = ls.length := wu64 (by omega) (by omega)
  have ne0 : ¬ ((ls.length : Int) = 0) := by omega
  have ne1 : ¬ (ls.length = 0) := by omega
  simp (config := {maxSteps := 1000000}) only [↓zvN, zvU, ↓zqD, ↓sk_nil, ↓sk_cons, ↓sk_guard, ↓sk_zero, ↓sk_one, ↓sk_two, ↓up_apply, ↓hv_apply, ↓upO_some, ↓upO_none, ↓ev_tmp, ↓ev_const, ↓ev_func, ↓ev_global, init, Nat.reduceEqDiff, Nat.reduceAdd, Nat.reduceMul, Nat.reduceSub, ↓reduceIte, Int.reduceEq, Int.reduceNe, Nat.reduceLeDiff, one, Value.cells, Int.reduceLE, Int.reduceLT, Int.reduceToNat, add_mk, reduceCtorEq, List.mem_range'_1, true_and, and_true, and_false, false_and, Nat.reduceLT, Nat.reduceLeDiff, tyF, c0, eu, ne0, ne1]
  refine ⟨hm15, ?_⟩
  have hT5 := hT1.more hm15
  have c5 := hT5.tab.cell 0
  simp only [List.getElem?_cons_zero] at c5
  obtain ⟨fr, hfr⟩ : ∃ f, f = hashM p ls.length := ⟨_, rfl⟩
  have hfl : fr < ls.length := by rw [hfr, hhash]; exact Nat.mod_lt _ hpos
  have erem : Int.tmod x (ls.length : Int) = (fr : Int) := by
    rw [hfr, hhash, Int.tmod_eq_emod_of_nonneg hrg.1]
    obtain ⟨xn, rfl⟩ := Int.eq_ofNat_of_zero_le hrg.1
    simp
  have ewr : IntKind.u64.wrap (fr : Int) = fr := wu64 (by omega) (by omega)
  have ewi : IntKind.i64.wrap (fr : Int) = fr := w64 (by omega) (by omega)
  try simp (config := {maxSteps := 1000000}) only [↓zvN, zvU, ↓up_apply, ↓hv_apply, ↓upO_some, ↓upO_none, ↓ev_tmp, ↓ev_const, ↓ev_func, ↓ev_global, init, Nat.reduceEqDiff, Nat.reduceAdd, Nat.reduceMul, Nat.reduceSub, ↓reduceIte, Int.reduceEq, Int.reduceNe, Nat.reduceLeDiff, one, Value.cells, Int.reduceLE, Int.reduceLT, Int.reduceToNat, add_mk, reduceCtorEq, List.mem_range'_1, true_and, and_true, and_false, false_and, Nat.reduceLT, Nat.reduceLeDiff, tyF, c5, erem, ewr]
  refine loop_p (6 :: 8 :: 9 :: 10 :: List.range' 30 51) (fun e w' => FindJ ls p w5 (e 6) (e 30) w') (fun e _ => ls.length - (numOf (e 30)).toNat) ?_ ?_
  · exact ⟨0, -1, by simp only [hv_apply, up_apply, upO_some, upO_none, init, List.mem_cons, List.mem_range'_1, true_and, and_true, and_false, false_and, Nat.reduceLT, Nat.reduceLeDiff, Nat.reduceAdd, true_or, or_true, if_true, if_false, ↓reduceIte, Nat.reduceEqDiff, false_or, or_false, List.not_mem_nil, List.getElem?_cons_zero, List.getElem?_cons_succ, Option.getD_some] <;> rfl, by omega, by simp only [hv_apply, up_apply, upO_some, upO_none, init, List.mem_cons, List.mem_range'_1, true_and, and_true, and_false, false_and, Nat.reduceLT, Nat.reduceLeDiff, Nat.reduceAdd, true_or, or_true, if_true, if_false, ↓reduceIte, Nat.reduceEqDiff, false_or, or_false, List.not_mem_nil, List.getElem?_cons_zero, List.getElem?_cons_succ, Option.getD_some] <;> rfl, rfl, More.refl _⟩
  rintro v w6 ⟨k, s, h30, hk, h6, hsc, hm6⟩
  simp only [hv_apply, up_apply, upO_some, upO_none, init, List.mem_cons, List.mem_range'_1, true_and, and_true, and_false, false_and, Nat.reduceLT, Nat.reduceLeDiff, Nat.reduceAdd, true_or, or_true, if_true, if_false, ↓reduceIte, Nat.reduceEqDiff, false_or, or_false, List.not_mem_nil, List.getElem?_cons_zero, List.getElem?_cons_succ, Option.getD_some] at h30 h6
  have ek : IntKind.i64.wrap ((k : Int) + 1) = ((k + 1 : Nat) : Int) := w64 (by omega) (by omega)
  simp (config := {maxSteps := 1000000}) only [↓zvN, zvU, ↓up_apply, ↓hv_apply, ↓upO_some, ↓upO_none, ↓ev_tmp, ↓ev_const, ↓ev_func, ↓ev_global, init, Nat.reduceEqDiff, Nat.reduceAdd, Nat.reduceMul, Nat.reduceSub, ↓reduceIte, Int.reduceEq, Int.reduceNe, Nat.reduceLeDiff, one, Value.cells, Int.reduceLE, Int.reduceLT, Int.reduceToNat, add_mk, reduceCtorEq, List.mem_range'_1, true_and, and_true, and_false, false_and, Nat.reduceLT, Nat.reduceLeDiff, tyF, h30, h6]
  refine ⟨fun h9 => ?_, fun h9 => ?_⟩
  rotate_left
  · obtain rfl : k = ls.length := by omega
    rw [Nat.sub_self] at hsc
    unfold scanM at hsc
    try simp (config := {maxSteps := 1000000}) only [↓zvN, zvU, ↓up_apply, ↓hv_apply, ↓upO_some, ↓upO_none, ↓ev_tmp, ↓ev_const, ↓ev_func, ↓ev_global, init, Nat.reduceEqDiff, Nat.reduceAdd, Nat.reduceMul, Nat.reduceSub, ↓reduceIte, Int.reduceEq, Int.reduceNe, Nat.reduceLeDiff, one, Value.cells, Int.reduceLE, Int.reduceLT, Int.reduceToNat, add_mk, reduceCtorEq, List.mem_range'_1, true_and, and_true, and_false, false_and, Nat.reduceLT, Nat.reduceLeDiff, tyF, h30, h6]
    rw [← hsc]
    exact ⟨rfl, (hm1.trans hm15).trans hm6⟩
  have hT6 := hT5.more hm6
  have c6 := hT6.tab.cell 0
  simp only [List.getElem?_cons_zero] at c6
  obtain ⟨i, hi⟩ : ∃ i, i = (fr + k) % ls.length := ⟨_, rfl⟩
  have hil : i < ls.length := by rw [hi]; exact Nat.mod_lt _ hpos
  have eadd : IntKind.i64.wrap ((fr : Int) + (k : Int)) = ((fr + k : Nat) : Int) := w64 (by omega) (by omega)
  have emod : Int.tmod ((fr + k : Nat) : Int) (ls.length : Int) = (i : Int) := by
    rw [hi, Int.tmod_eq_emod_of_nonneg (by omega)]
    simp
  have ewi2 : IntKind.i64.wrap (i : Int) = i := w64 (by omega) (by omega)
  obtain ⟨y, hy⟩ := row_nat ls i hil
  have hsc' : scanM ls p fr (ls.length - (k + 1) + 1) k s = findM ls p := by rw [show ls.length - (k + 1) + 1 = ls.length - k by omega, hfr]; exact hsc
  unfold scanM at hsc'
  rw [← hi] at hsc'
  simp only [hy] at hsc'
  have vrow := blk_elem hT6.row hT.ok.lens hy
  have g0 : (0 : Int) ≤ (i : Int) := by omega
  have hilI : (i : Int) < (ls.length : Int) := by omega
  simp (config := {maxSteps := 1000000}) only [↓zvN, zvU, ↓up_apply, ↓hv_apply, ↓upO_some, ↓upO_none, ↓ev_tmp, ↓ev_const, ↓ev_func, ↓ev_global, init, Nat.reduceEqDiff, Nat.reduceAdd, Nat.reduceMul, Nat.reduceSub, ↓reduceIte, Int.reduceEq, Int.reduceNe, Nat.reduceLeDiff, one, Value.cells, Int.reduceLE, Int.reduceLT, Int.reduceToNat, add_mk, reduceCtorEq, List.mem_range'_1, true_and, and_true, and_false, false_and, Nat.reduceLT, Nat.reduceLeDiff, tyF, h30, h6, c6, eadd, emod, ewi, ewi2, ne0, ne1, hil, vrow, g0, Int.toNat_natCast, hilI, zerPlace_int]
  have hyo := hT.ok y (List.mem_of_getElem? hy)
  have hm7 := more_alloc w6 (.cells (PlaceM.mk 0 prefZ [.int .i64 0]).cells.toArray 95)
  have hb7 := Blk.new w6 95 (PlaceM.mk 0 prefZ [.int .i64 0]).cells.toArray
  obtain ⟨w7, hw7⟩ : ∃ w7, w6.alloc (.cells (PlaceM.mk 0 prefZ [.int .i64 0]).cells.toArray 95) = w7 := ⟨_, rfl⟩
  rw [hw7] at hm7 hb7 ⊢
  clear hw7
  refine st_all hb7 (by simpa using hyo.len) (by rfl) (by simpa using hyo.ones) fun w8 j1 j2 => ?_
  rw [List.toList_toArray] at j2
  have hm8 : More w6 w8 := more_but hm7 (But.of_wr j1) (Nat.le_refl _)
  have hm18 := hm15.trans (hm6.trans hm8)
  have hT8 := hT6.more hm8
  have c8 := hT8.tab.cell 0
  simp only [List.getElem?_cons_zero] at c8
  obtain ⟨qb, hqb⟩ : ∃ q, w6.heap.size = q := ⟨_, rfl⟩
  rw [hqb] at j2 ⊢
  have d0 : w8.cell? ⟨qb, 0, none⟩ = some (.int .i64 y.state) := by rw [j2.cell]; rfl
  have d1 : ∀ K : Value → Prop, ldRow 8 ⟨qb, 1, none⟩ w8 K = K (.agg y.p.cells.toArray) := fun K => by
    have hl := hyo.len
    have h8 : y.p.cells.length = 8 := by simp [PrefM.cells, hyo.pre]
    simp only [PlaceM.cells, List.length_cons, List.length_append, h8] at hl
    rw [j2.row_eq 1 8 (by simp only [PlaceM.cells, List.length_cons, List.length_append, h8]; omega)]
    congr 2
    simp only [PlaceM.cells, List.drop_succ_cons, List.drop_zero]
    rw [List.take_append_of_le_length (by omega), List.take_of_length_le (by omega)]
  have d2 := (hb1.more hm18).all_eq 8 hpl
  have d3 : w8.cell? ⟨b, i * 10, none⟩ = some (.int .i64 y.state) := by
    have := blk_elemC (j := 0) hT8.row hT.ok.lens hy (by omega)
    rw [Nat.add_zero] at this
    rw [this]; rfl
  rw [s2_undef]
  have peq := pref_eq hyo.pre hp w8
  by_cases h1 : y.state = 1
  · rw [h1] at d0 d3
    by_cases h2 : y.p = p
    · rw [if_pos ⟨h1, h2⟩] at hsc'
      have peq2 : ∀ ox oy K, _ := fun ox oy K => (peq ox oy K).trans (show _ = K (.bool true) by simp only [h2, decide_true])
      simp (config := {maxSteps := 1000000}) only [↓zvN, zvU, ↓up_apply, ↓hv_apply, ↓upO_some, ↓upO_none, ↓ev_tmp, ↓ev_const, ↓ev_func, ↓ev_global, init, Nat.reduceEqDiff, Nat.reduceAdd, Nat.reduceMul, Nat.reduceSub, ↓reduceIte, Int.reduceEq, Int.reduceNe, Nat.reduceLeDiff, one, Value.cells, Int.reduceLE, Int.reduceLT, Int.reduceToNat, add_mk, reduceCtorEq, List.mem_range'_1, true_and, and_true, and_false, false_and, Nat.reduceLT, Nat.reduceLeDiff, tyF, h30, h6, d0, d1, d2, peq2]
      rw [← hsc']
      exact ⟨rfl, hm1.trans hm18⟩
    · rw [if_neg (fun h => h2 h.2)] at hsc'
      simp only [h1, if_neg (show ¬ ((1 : Int) = 0) by omega), ne_eq, not_true_eq_false, false_and, if_false] at hsc'
      simp (config := {maxSteps := 1000000}) only [↓zvN, zvU, ↓up_apply, ↓hv_apply, ↓upO_some, ↓upO_none, ↓ev_tmp, ↓ev_const, ↓ev_func, ↓ev_global, init, Nat.reduceEqDiff, Nat.reduceAdd, Nat.reduceMul, Nat.reduceSub, ↓reduceIte, Int.reduceEq, Int.reduceNe, Nat.reduceLeDiff, one, Value.cells, Int.reduceLE, Int.reduceLT, Int.reduceToNat, add_mk, reduceCtorEq, List.mem_range'_1, true_and, and_true, and_false, false_and, Nat.reduceLT, Nat.reduceLeDiff, tyF, h30, h6, d0, d1, d2, d3, c8, peq, h2, hilI, g0, hil, Int.toNat_natCast]
      rw [ek]
      refine ⟨⟨?_, k + 1, _, rfl, by omega, rfl, by rw [← hfr]; exact hsc', hm6.trans hm8⟩, by simp only [numOf]; omega⟩
      repeat (first | exact Same.hv _ _ _ | refine Same.up (by simp) ?_)
  · rw [if_neg (fun h => h1 h.1)] at hsc'
    by_cases h3 : s < 0
    · simp only [h1, h3, ne_eq, not_false_eq_true, and_self, if_true] at hsc'
      by_cases h4 : y.state = 0
      · simp only [h4, if_true] at hsc'
        simp (config := {maxSteps := 1000000}) only [↓zvN, zvU, ↓up_apply, ↓hv_apply, ↓upO_some, ↓upO_none, ↓ev_tmp, ↓ev_const, ↓ev_func, ↓ev_global, init, Nat.reduceEqDiff, Nat.reduceAdd, Nat.reduceMul, Nat.reduceSub, ↓reduceIte, Int.reduceEq, Int.reduceNe, Nat.reduceLeDiff, one, Value.cells, Int.reduceLE, Int.reduceLT, Int.reduceToNat, add_mk, reduceCtorEq, List.mem_range'_1, true_and, and_true, and_false, false_and, Nat.reduceLT, Nat.reduceLeDiff, tyF, h30, h6, d0, d1, d2, d3, c8, h1, h3, h4, hilI, g0, hil, Int.toNat_natCast]
        rw [← hsc']
        exact ⟨rfl, hm1.trans hm18⟩
      · simp only [h4, if_false] at hsc'
        simp (config := {maxSteps := 1000000}) only [↓zvN, zvU, ↓up_apply, ↓hv_apply, ↓upO_some, ↓upO_none, ↓ev_tmp, ↓ev_const, ↓ev_func, ↓ev_global, init, Nat.reduceEqDiff, Nat.reduceAdd, Nat.reduceMul, Nat.reduceSub, ↓reduceIte, Int.reduceEq, Int.reduceNe, Nat.reduceLeDiff, one, Value.cells, Int.reduceLE, Int.reduceLT, Int.reduceToNat, add_mk, reduceCtorEq, List.mem_range'_1, true_and, and_true, and_false, false_and, Nat.reduceLT, Nat.reduceLeDiff, tyF, h30, h6, d0, d1, d2, d3, c8, h1, h3, h4, hilI, g0, hil, Int.toNat_natCast]
        rw [ek]
        refine ⟨⟨?_, k + 1, _, rfl, by omega, rfl, by rw [← hfr]; exact hsc', hm6.trans hm8⟩, by simp only [numOf]; omega⟩
        repeat (first | exact Same.hv _ _ _ | refine Same.up (by simp) ?_)
    · simp only [h3, and_false, if_false] at hsc'
      by_cases h4 : y.state = 0
      · simp only [h4, if_true] at hsc'
        simp (config := {maxSteps := 1000000}) only [↓zvN, zvU, ↓up_apply, ↓hv_apply, ↓upO_some, ↓upO_none, ↓ev_tmp, ↓ev_const, ↓ev_func, ↓ev_global, init, Nat.reduceEqDiff, Nat.reduceAdd, Nat.reduceMul, Nat.reduceSub, ↓reduceIte, Int.reduceEq, Int.reduceNe, Nat.reduceLeDiff, one, Value.cells, Int.reduceLE, Int.reduceLT, Int.reduceToNat, add_mk, reduceCtorEq, List.mem_range'_1, true_and, and_true, and_false, false_and, Nat.reduceLT, Nat.reduceLeDiff, tyF, h30, h6, d0, d1, d2, d3, c8, h1, h3, h4, hilI, g0, hil, Int.toNat_natCast]
        rw [← hsc']
        exact ⟨rfl, hm1.trans hm18⟩
      · simp only [h4, if_false] at hsc'
        simp (config := {maxSteps := 1000000}) only [↓zvN, zvU, ↓up_apply, ↓hv_apply, ↓upO_some, ↓upO_none, ↓ev_tmp, ↓ev_const, ↓ev_func, ↓ev_global, init, Nat.reduceEqDiff, Nat.reduceAdd, Nat.reduceMul, Nat.reduceSub, ↓reduceIte, Int.reduceEq, Int.reduceNe, Nat.reduceLeDiff, one, Value.cells, Int.reduceLE, Int.reduceLT, Int.reduceToNat, add_mk, reduceCtorEq, List.mem_range'_1, true_and, and_true, and_false, false_and, Nat.reduceLT, Nat.reduceLeDiff, tyF, h30, h6, d0, d1, d2, d3, c8, h1, h3, h4, hilI, g0, hil, Int.toNat_natCast]
        rw [ek]
        refine ⟨⟨?_, k + 1, _, rfl, by omega, rfl, by rw [← hfr]; exact hsc', hm6.trans hm8⟩, by simp only [numOf]; omega⟩
        repeat (first | exact Same.hv _ _ _ | refine Same.up (by simp) ?_)
theorem zerPlace_string : zer Try.prog 102 = some (.agg (PlaceM.mk 0 prefZ [.string ⟨#[]⟩]).cells.toArray) := by rw [zer102]; rfl
theorem table_find_string (w : World) (b t : Nat) (ls : List PlaceM) (room n : Nat) (p : PrefM) (hp : p.addr.length = 7) (hT : TabW w 100 102 10 b t ls room n) :
    Ret Try.prog 48 #[.pointer (some ⟨t, 0, none⟩), .agg p.cells.toArray] w fun v w' => v = .tuple #[.int .i64 (findM ls p).1, .int .i64 (findM ls p).2] ∧ More w w' := by
  refine ret_of Try.func48 rfl (by kernel_rfl) (Nat.le_of_ble_eq_true (by kernel_rfl)) ?_
  have hm1 := more_alloc w (.cells p.cells.toArray 24)
  have hb1 := Blk.new w 24 p.cells.toArray
  have s1 := size_alloc w (.cells p.cells.toArray 24)
  simp (config := {maxSteps := 1000000}) only [↓zvN, zvU, ↓up_apply, ↓hv_apply, ↓upO_some, ↓upO_none, ↓ev_tmp, ↓ev_const, ↓ev_func, ↓ev_global, init, Nat.reduceEqDiff, Nat.reduceAdd, Nat.reduceMul, Nat.reduceSub, ↓reduceIte, Int.reduceEq, Int.reduceNe, Nat.reduceLeDiff, one, Value.cells, Int.reduceLE, Int.reduceLT, Int.reduceToNat, add_mk, reduceCtorEq, List.mem_range'_1, true_and, and_true, and_false, false_and, Nat.reduceLT, Nat.reduceLeDiff, tyF]
  generalize w.alloc (.cells p.cells.toArray 24) = w1 at hm1 hb1 s1 ⊢
  rw [List.toList_toArray] at hb1
  obtain ⟨pb, hpb⟩ : ∃ q, w.heap.size = q := ⟨_, rfl⟩
  rw [hpb] at hb1 s1 ⊢
  have hT1 := hT.more hm1
  have hpl : p.cells.length = 8 := by simp [PrefM.cells, hp]
  have v1 := hb1.all_eq 8 hpl
  have c0 := hT1.tab.cell 0
  simp only [List.getElem?_cons_zero] at c0
  have htl := hT1.tab.lt
  refine draw_line w1.heap.size More [0, 0, 1, 1, 1, 0, 0, 0, 0, 0, 0, 0, 0] [[], [], [1], [1, 2], [0, 1, 2, 3], [], [5], [5, 6], [5, 6, 7], [5, 6, 7, 8], [5, 6, 7, 8, 9], [0, 1, 2, 3, 4, 5, 6, 7, 8, 9, 10], [0, 1, 2, 3, 4, 5, 6, 7, 8, 9, 10, 11]] mixed (by kernel_rfl) (by kernel_rfl) (More.refl _) (fun w' h => h) (fun w' h => h) ?_
  intro w2 hm2
  simp (config := {maxSteps := 1000000}) only [↓zvN, zvU, ↓zqD, ↓sk_nil, ↓sk_cons, ↓sk_guard, ↓sk_zero, ↓sk_one, ↓sk_two, ↓up_apply, ↓hv_apply, ↓upO_some, ↓upO_none, ↓ev_tmp, ↓ev_const, ↓ev_func, ↓ev_global, init, Nat.reduceEqDiff, Nat.reduceAdd, Nat.reduceMul, Nat.reduceSub, ↓reduceIte, Int.reduceEq, Int.reduceNe, Nat.reduceLeDiff, one, Value.cells, Int.reduceLE, Int.reduceLT, Int.reduceToNat, add_mk, reduceCtorEq, List.mem_range'_1, true_and, and_true, and_false, false_and, Nat.reduceLT, Nat.reduceLeDiff, tyF, v1, s1, c0, htl, key0 w1]
  refine call_ok Try.call44 (table_bytesOf w2 p hp) ?_
  rintro _ w3 ⟨g, c, rfl, hg, hB3, hc3, hm3⟩
  have hm13 := hm2.trans hm3.1
  simp (config := {maxSteps := 1000000}) only [↓zvN, zvU, ↓zqD, ↓sk_nil, ↓sk_cons, ↓sk_guard, ↓sk_zero, ↓sk_one, ↓sk_two, ↓up_apply, ↓hv_apply, ↓upO_some, ↓upO_none, ↓ev_tmp, ↓ev_const, ↓ev_func, ↓ev_global, init, Nat.reduceEqDiff, Nat.reduceAdd, Nat.reduceMul, Nat.reduceSub, ↓reduceIte, Int.reduceEq, Int.reduceNe, Nat.reduceLeDiff, one, Value.cells, Int.reduceLE, Int.reduceLT, Int.reduceToNat, add_mk, reduceCtorEq, List.mem_range'_1, true_and, and_true, and_false, false_and, Nat.reduceLT, Nat.reduceLeDiff, tyF]
  refine ⟨hm13, ?_⟩
  refine bslice (z := .slice none 0 0) (cells := #[.slice (some ⟨g, 0, none⟩) 8 c]) Try.underlying141 bytesE (by omega) (by have := bcells_list (z := .slice none 0 0) [.slice (some ⟨g, 0, none⟩) 8 c] (by intro v hv; simp at hv; subst hv; rfl); exact this) ?_
  have hm4 := more_alloc w3 (.cells #[.slice (some ⟨g, 0, none⟩) 8 c] 87)
  have hb4 := Blk.new w3 87 #[.slice (some ⟨g, 0, none⟩) 8 c]
  generalize w3.alloc (.cells #[.slice (some ⟨g, 0, none⟩) 8 c] 87) = w4 at hm4 hb4 ⊢
  have hm14 := hm13.trans hm4
  simp (config := {maxSteps := 1000000}) only [↓zvN, zvU, ↓zqD, ↓sk_nil, ↓sk_cons, ↓sk_guard, ↓sk_zero, ↓sk_one, ↓sk_two, ↓up_apply, ↓hv_apply, ↓upO_some, ↓upO_none, ↓ev_tmp, ↓ev_const, ↓ev_func, ↓ev_global, init, Nat.reduceEqDiff, Nat.reduceAdd, Nat.reduceMul, Nat.reduceSub, ↓reduceIte, Int.reduceEq, Int.reduceNe, Nat.reduceLeDiff, one, Value.cells, Int.reduceLE, Int.reduceLT, Int.reduceToNat, add_mk, reduceCtorEq, List.mem_range'_1, true_and, and_true, and_false, false_and, Nat.reduceLT, Nat.reduceLeDiff, tyF]
  refine ⟨hm14, ?_⟩
  have hsum := sip_sum w4 (noBytes 16) (some ⟨w3.heap.size, 0, none⟩) [⟨some ⟨g, 0, none⟩, pkey p, c⟩] 1 rfl (by have := hb4.cs; simpa [PartM.cell, pkey_len hp] using this) (by intro x hx; simp at hx; subst hx; exact hB3.more hm4) (by simp [joinP, pkey_len hp]) (by simp)
  rw [show joinP [⟨some ⟨g, 0, none⟩, pkey p, c⟩] = pkey p by simp [joinP]] at hsum
  have hrg := sipM_range (noBytes 16) (pkey p)
  have hhash : hashM p ls.length = (sipM (noBytes 16) (pkey p)).toNat % ls.length := rfl
  obtain ⟨x, hx⟩ : ∃ x, x = sipM (noBytes 16) (pkey p) := ⟨_, rfl⟩
  rw [← hx] at hsum hrg hhash
  clear hx
  refine call_ok Try.call64 hsum ?_
  rintro _ w5 ⟨rfl, hm5⟩
  have hm15 := hm14.trans hm5
  have hpos := hT.pos
  have hle := hT.le
  have eu : IntKind.u64.wrap (ls.length : Int) = ls.length := wu64 (by omega) (by omega)
  have ne0 : ¬ ((ls.length : Int) = 0) := by omega
  have ne1 : ¬ (ls.length = 0) := by omega
  simp (config := {maxSteps := 1000000}) only [↓zvN, zvU, ↓zqD, ↓sk_nil, ↓sk_cons, ↓sk_guard, ↓sk_zero, ↓sk_one, ↓sk_two, ↓up_apply, ↓hv_apply, ↓upO_some, ↓upO_none, ↓ev_tmp, ↓ev_const, ↓ev_func, ↓ev_global, init, Nat.reduceEqDiff, Nat.reduceAdd, Nat.reduceMul, Nat.reduceSub, ↓reduceIte, Int.reduceEq, Int.reduceNe, Nat.reduceLeDiff, one, Value.cells, Int.reduceLE, Int.reduceLT, Int.reduceToNat, add_mk, reduceCtorEq, List.mem_range'_1, true_and, and_true, and_false, false_and, Nat.reduceLT, Nat.reduceLeDiff, tyF, c0, eu, ne0, ne1]
  refine ⟨hm15, ?_⟩
  have hT5 := hT1.more hm15
  have c5 := hT5.tab.cell 0
  simp only [List.getElem?_cons_zero] at c5
  obtain ⟨fr, hfr⟩ : ∃ f, f = hashM p ls.length := ⟨_, rfl⟩
  have hfl : fr < ls.length := by rw [hfr, hhash]; exact Nat.mod_lt _ hpos
  have erem : Int.tmod x (ls.length : Int) = (fr : Int) := by
    rw [hfr, hhash, Int.tmod_eq_emod_of_nonneg hrg.1]
    obtain ⟨xn, rfl⟩ := Int.eq_ofNat_of_zero_le hrg.1
    simp
  have ewr : IntKind.u64.wrap (fr : Int) = fr := wu64 (by omega) (by omega)
  have ewi : IntKind.i64.wrap (fr : Int) = fr := w64 (by omega) (by omega)
  try simp (config := {maxSteps := 1000000}) only [↓zvN, zvU, ↓up_apply, ↓hv_apply, ↓upO_some, ↓upO_none, ↓ev_tmp, ↓ev_const, ↓ev_func, ↓ev_global, init, Nat.reduceEqDiff, Nat.reduceAdd, Nat.reduceMul, Nat.reduceSub, ↓reduceIte, Int.reduceEq, Int.reduceNe, Nat.reduceLeDiff, one, Value.cells, Int.reduceLE, Int.reduceLT, Int.reduceToNat, add_mk, reduceCtorEq, List.mem_range'_1, true_and, and_true, and_false, false_and, Nat.reduceLT, Nat.reduceLeDiff, tyF, c5, erem, ewr]
  refine loop_p (6 :: 8 :: 9 :: 10 :: List.range' 30 51) (fun e w' => FindJ ls p w5 (e 6) (e 30) w') (fun e _ => ls.length - (numOf (e 30)).toNat) ?_ ?_
  · exact ⟨0, -1, by simp only [hv_apply, up_apply, upO_some, upO_none, init, List.mem_cons, List.mem_range'_1, true_and, and_true, and_false, false_and, Nat.reduceLT, Nat.reduceLeDiff, Nat.reduceAdd, true_or, or_true, if_true, if_false, ↓reduceIte, Nat.reduceEqDiff, false_or, or_false, List.not_mem_nil, List.getElem?_cons_zero, List.getElem?_cons_succ, Option.getD_some] <;> rfl, by omega, by simp only [hv_apply, up_apply, upO_some, upO_none, init, List.mem_cons, List.mem_range'_1, true_and, and_true, and_false, false_and, Nat.reduceLT, Nat.reduceLeDiff, Nat.reduceAdd, true_or, or_true, if_true, if_false, ↓reduceIte, Nat.reduceEqDiff, false_or, or_false, List.not_mem_nil, List.getElem?_cons_zero, List.getElem?_cons_succ, Option.getD_some] <;> rfl, rfl, More.refl _⟩
  rintro v w6 ⟨k, s, h30, hk, h6, hsc, hm6⟩
  simp only [hv_apply, up_apply, upO_some, upO_none, init, List.mem_cons, List.mem_range'_1, true_and, and_true, and_false, false_and, Nat.reduceLT, Nat.reduceLeDiff, Nat.reduceAdd, true_or, or_true, if_true, if_false, ↓reduceIte, Nat.reduceEqDiff, false_or, or_false, List.not_mem_nil, List.getElem?_cons_zero, List.getElem?_cons_succ, Option.getD_some] at h30 h6
  have ek : IntKind.i64.wrap ((k : Int) + 1) = ((k + 1 : Nat) : Int) := w64 (by omega) (by omega)
  simp (config := {maxSteps := 1000000}) only [↓zvN, zvU, ↓up_apply, ↓hv_apply, ↓upO_some, ↓upO_none, ↓ev_tmp, ↓ev_const, ↓ev_func, ↓ev_global, init, Nat.reduceEqDiff, Nat.reduceAdd, Nat.reduceMul, Nat.reduceSub, ↓reduceIte, Int.reduceEq, Int.reduceNe, Nat.reduceLeDiff, one, Value.cells, Int.reduceLE, Int.reduceLT, Int.reduceToNat, add_mk, reduceCtorEq, List.mem_range'_1, true_and, and_true, and_false, false_and, Nat.reduceLT, Nat.reduceLeDiff, tyF, h30, h6]
  refine ⟨fun h9 => ?_, fun h9 => ?_⟩
  rotate_left
  · obtain rfl : k = ls.length := by omega
    rw [Nat.sub_self] at hsc
    unfold scanM at hsc
    try simp (config := {maxSteps := 1000000}) only [↓zvN, zvU, ↓up_apply, ↓hv_apply, ↓upO_some, ↓upO_none, ↓ev_tmp, ↓ev_const, ↓ev_func, ↓ev_global, init, Nat.reduceEqDiff, Nat.reduceAdd, Nat.reduceMul, Nat.reduceSub, ↓reduceIte, Int.reduceEq, Int.reduceNe, Nat.reduceLeDiff, one, Value.cells, Int.reduceLE, Int.reduceLT, Int.reduceToNat, add_mk, reduceCtorEq, List.mem_range'_1, true_and, and_true, and_false, false_and, Nat.reduceLT, Nat.reduceLeDiff, tyF, h30, h6]
    rw [← hsc]
    exact ⟨rfl, (hm1.trans hm15).trans hm6⟩
  have hT6 := hT5.more hm6
  have c6 := hT6.tab.cell 0
  simp only [List.getElem?_cons_zero] at c6
  obtain ⟨i, hi⟩ : ∃ i, i = (fr + k) % ls.length := ⟨_, rfl⟩
  have hil : i < ls.length := by rw [hi]; exact Nat.mod_lt _ hpos
  have eadd : IntKind.i64.wrap ((fr : Int) + (k : Int)) = ((fr + k : Nat) : Int) := w64 (by omega) (by omega)
  have emod : Int.tmod ((fr + k : Nat) : Int) (ls.length : Int) = (i : Int) := by
    rw [hi, Int.tmod_eq_emod_of_nonneg (by omega)]
    simp
  have ewi2 : IntKind.i64.wrap (i : Int) = i := w64 (by omega) (by omega)
  obtain ⟨y, hy⟩ := row_nat ls i hil
  have hsc' : scanM ls p fr (ls.length - (k + 1) + 1) k s = findM ls p := by rw [show ls.length - (k + 1) + 1 = ls.length - k by omega, hfr]; exact hsc
  unfold scanM at hsc'
  rw [← hi] at hsc'
  simp only [hy] at hsc'
  have vrow := blk_elem hT6.row hT.ok.lens hy
  have g0 : (0 : Int) ≤ (i : Int) := by omega
  have hilI : (i : Int) < (ls.length : Int) := by omega
  simp (config := {maxSteps := 1000000}) only [↓zvN, zvU, ↓up_apply, ↓hv_apply, ↓upO_some, ↓upO_none, ↓ev_tmp, ↓ev_const, ↓ev_func, ↓ev_global, init, Nat.reduceEqDiff, Nat.reduceAdd, Nat.reduceMul, Nat.reduceSub, ↓reduceIte, Int.reduceEq, Int.reduceNe, Nat.reduceLeDiff, one, Value.cells, Int.reduceLE, Int.reduceLT, Int.reduceToNat, add_mk, reduceCtorEq, List.mem_range'_1, true_and, and_true, and_false, false_and, Nat.reduceLT, Nat.reduceLeDiff, tyF, h30, h6, c6, eadd, emod, ewi, ewi2, ne0, ne1, hil, vrow, g0, Int.toNat_natCast, hilI, zerPlace_string]
  have hyo := hT.ok y (List.mem_of_getElem? hy)
  have hm7 := more_alloc w6 (.cells (PlaceM.mk 0 prefZ [.string ⟨#[]⟩]).cells.toArray 102)
  have hb7 := Blk.new w6 102 (PlaceM.mk 0 prefZ [.string ⟨#[]⟩]).cells.toArray
  obtain ⟨w7, hw7⟩ : ∃ w7, w6.alloc (.cells (PlaceM.mk 0 prefZ [.string ⟨#[]⟩]).cells.toArray 102) = w7 := ⟨_, rfl⟩
  rw [hw7] at hm7 hb7 ⊢
  clear hw7
  refine st_all hb7 (by simpa using hyo.len) (by rfl) (by simpa using hyo.ones) fun w8 j1 j2 => ?_
  rw [List.toList_toArray] at j2
  have hm8 : More w6 w8 := more_but hm7 (But.of_wr j1) (Nat.le_refl _)
  have hm18 := hm15.trans (hm6.trans hm8)
  have hT8 := hT6.more hm8
  have c8 := hT8.tab.cell 0
  simp only [List.getElem?_cons_zero] at c8
  obtain ⟨qb, hqb⟩ : ∃ q, w6.heap.size = q := ⟨_, rfl⟩
  rw [hqb] at j2 ⊢
  have d0 : w8.cell? ⟨qb, 0, none⟩ = some (.int .i64 y.state) := by rw [j2.cell]; rfl
  have d1 : ∀ K : Value → Prop, ldRow 8 ⟨qb, 1, none⟩ w8 K = K (.agg y.p.cells.toArray) := fun K => by
    have hl := hyo.len
    have h8 : y.p.cells.length = 8 := by simp [PrefM.cells, hyo.pre]
    simp only [PlaceM.cells, List.length_cons, List.length_append, h8] at hl
    rw [j2.row_eq 1 8 (by simp only [PlaceM.cells, List.length_cons, List.length_append, h8]; omega)]
    congr 2
    simp only [PlaceM.cells, List.drop_succ_cons, List.drop_zero]
    rw [List.take_append_of_le_length (by omega), List.take_of_length_le (by omega)]
  have d2 := (hb1.more hm18).all_eq 8 hpl
  have d3 : w8.cell? ⟨b, i * 10, none⟩ = some (.int .i64 y.state) := by
    have := blk_elemC (j := 0) hT8.row hT.ok.lens hy (by omega)
    rw [Nat.add_zero] at this
    rw [this]; rfl
  rw [s2_undef]
  have peq := pref_eq hyo.pre hp w8
  by_cases h1 : y.state = 1
  · rw [h1] at d0 d3
    by_cases h2 : y.p = p
    · rw [if_pos ⟨h1, h2⟩] at hsc'
      have peq2 : ∀ ox oy K, _ := fun ox oy K => (peq ox oy K).trans (show _ = K (.bool true) by simp only [h2, decide_true])
      simp (config := {maxSteps := 1000000}) only [↓zvN, zvU, ↓up_apply, ↓hv_apply, ↓upO_some, ↓upO_none, ↓ev_tmp, ↓ev_const, ↓ev_func, ↓ev_global, init, Nat.reduceEqDiff, Nat.reduceAdd, Nat.reduceMul, Nat.reduceSub, ↓reduceIte, Int.reduceEq, Int.reduceNe, Nat.reduceLeDiff, one, Value.cells, Int.reduceLE, Int.reduceLT, Int.reduceToNat, add_mk, reduceCtorEq, List.mem_range'_1, true_and, and_true, and_false, false_and, Nat.reduceLT, Nat.reduceLeDiff, tyF, h30, h6, d0, d1, d2, peq2]
      rw [← hsc']
      exact ⟨rfl, hm1.trans hm18⟩
    · rw [if_neg (fun h => h2 h.2)] at hsc'
      simp only [h1, if_neg (show ¬ ((1 : Int) = 0) by omega), ne_eq, not_true_eq_false, false_and, if_false] at hsc'
      simp (config := {maxSteps := 1000000}) only [↓zvN, zvU, ↓up_apply, ↓hv_apply, ↓upO_some, ↓upO_none, ↓ev_tmp, ↓ev_const, ↓ev_func, ↓ev_global, init, Nat.reduceEqDiff, Nat.reduceAdd, Nat.reduceMul, Nat.reduceSub, ↓reduceIte, Int.reduceEq, Int.reduceNe, Nat.reduceLeDiff, one, Value.cells, Int.reduceLE, Int.reduceLT, Int.reduceToNat, add_mk, reduceCtorEq, List.mem_range'_1, true_and, and_true, and_false, false_and, Nat.reduceLT, Nat.reduceLeDiff, tyF, h30, h6, d0, d1, d2, d3, c8, peq, h2, hilI, g0, hil, Int.toNat_natCast]
      rw [ek]
      refine ⟨⟨?_, k + 1, _, rfl, by omega, rfl, by rw [← hfr]; exact hsc', hm6.trans hm8⟩, by simp only [numOf]; omega⟩
      repeat (first | exact Same.hv _ _ _ | refine Same.up (by simp) ?_)
  · rw [if_neg (fun h => h1 h.1)] at hsc'
    by_cases h3 : s < 0
    · simp only [h1, h3, ne_eq, not_false_eq_true, and_self, if_true] at hsc'
      by_cases h4 : y.state = 0
      · simp only [h4, if_true] at hsc'
        simp (config := {maxSteps := 1000000}) only [↓zvN, zvU, ↓up_apply, ↓hv_apply, ↓upO_some, ↓upO_none, ↓ev_tmp, ↓ev_const, ↓ev_func, ↓ev_global, init, Nat.reduceEqDiff, Nat.reduceAdd, Nat.reduceMul, Nat.reduceSub, ↓reduceIte, Int.reduceEq, Int.reduceNe, Nat.reduceLeDiff, one, Value.cells, Int.reduceLE, Int.reduceLT, Int.reduceToNat, add_mk, reduceCtorEq, List.mem_range'_1, true_and, and_true, and_false, false_and, Nat.reduceLT, Nat.reduceLeDiff, tyF, h30, h6, d0, d1, d2, d3, c8, h1, h3, h4, hilI, g0, hil, Int.toNat_natCast]
        rw [← hsc']
        exact ⟨rfl, hm1.trans hm18⟩
      · simp only [h4, if_false] at hsc'
        simp (config := {maxSteps := 1000000}) only [↓zvN, zvU, ↓up_apply, ↓hv_apply, ↓upO_some, ↓upO_none, ↓ev_tmp, ↓ev_const, ↓ev_func, ↓ev_global, init, Nat.reduceEqDiff, Nat.reduceAdd, Nat.reduceMul, Nat.reduceSub, ↓reduceIte, Int.reduceEq, Int.reduceNe, Nat.reduceLeDiff, one, Value.cells, Int.reduceLE, Int.reduceLT, Int.reduceToNat, add_mk, reduceCtorEq, List.mem_range'_1, true_and, and_true, and_false, false_and, Nat.reduceLT, Nat.reduceLeDiff, tyF, h30, h6, d0, d1, d2, d3, c8, h1, h3, h4, hilI, g0, hil, Int.toNat_natCast]
        rw [ek]
        refine ⟨⟨?_, k + 1, _, rfl, by omega, rfl, by rw [← hfr]; exact hsc', hm6.trans hm8⟩, by simp only [numOf]; omega⟩
        repeat (first | exact Same.hv _ _ _ | refine Same.up (by simp) ?_)
    · simp only [h3, and_false, if_false] at hsc'
      by_cases h4 : y.state = 0
      · simp only [h4, if_true] at hsc'
        simp (config := {maxSteps := 1000000}) only [↓zvN, zvU, ↓up_apply, ↓hv_apply, ↓upO_some, ↓upO_none, ↓ev_tmp, ↓ev_const, ↓ev_func, ↓ev_global, init, Nat.reduceEqDiff, Nat.reduceAdd, Nat.reduceMul, Nat.reduceSub, ↓reduceIte, Int.reduceEq, Int.reduceNe, Nat.reduceLeDiff, one, Value.cells, Int.reduceLE, Int.reduceLT, Int.reduceToNat, add_mk, reduceCtorEq, List.mem_range'_1, true_and, and_true, and_false, false_and, Nat.reduceLT, Nat.reduceLeDiff, tyF, h30, h6, d0, d1, d2, d3, c8, h1, h3, h4, hilI, g0, hil, Int.toNat_natCast]
        rw [← hsc']
        exact ⟨rfl, hm1.trans hm18⟩
      · simp only [h4, if_false] at hsc'
        simp (config := {maxSteps := 1000000}) only [↓zvN, zvU, ↓up_apply, ↓hv_apply, ↓upO_some, ↓upO_none, ↓ev_tmp, ↓ev_const, ↓ev_func, ↓ev_global, init, Nat.reduceEqDiff, Nat.reduceAdd, Nat.reduceMul, Nat.reduceSub, ↓reduceIte, Int.reduceEq, Int.reduceNe, Nat.reduceLeDiff, one, Value.cells, Int.reduceLE, Int.reduceLT, Int.reduceToNat, add_mk, reduceCtorEq, List.mem_range'_1, true_and, and_true, and_false, false_and, Nat.reduceLT, Nat.reduceLeDiff, tyF, h30, h6, d0, d1, d2, d3, c8, h1, h3, h4, hilI, g0, hil, Int.toNat_natCast]
        rw [ek]
        refine ⟨⟨?_, k + 1, _, rfl, by omega, rfl, by rw [← hfr]; exact hsc', hm6.trans hm8⟩, by simp only [numOf]; omega⟩
        repeat (first | exact Same.hv _ _ _ | refine Same.up (by simp) ?_)
theorem zerPlace_box : zer Try.prog 139 = some (.agg (PlaceM.mk 0 prefZ [.int .i64 0, .pointer none]).cells.toArray) := by rw [zer139]; rfl
theorem table_find_box (w : World) (b t : Nat) (ls : List PlaceM) (room n : Nat) (p : PrefM) (hp : p.addr.length = 7) (hT : TabW w 135 139 11 b t ls room n) :
    Ret Try.prog 67 #[.pointer (some ⟨t, 0, none⟩), .agg p.cells.toArray] w fun v w' => v = .tuple #[.int .i64 (findM ls p).1, .int .i64 (findM ls p).2] ∧ More w w' := by
  refine ret_of Try.func67 rfl (by kernel_rfl) (Nat.le_of_ble_eq_true (by kernel_rfl)) ?_
  have hm1 := more_alloc w (.cells p.cells.toArray 24)
  have hb1 := Blk.new w 24 p.cells.toArray
  have s1 := size_alloc w (.cells p.cells.toArray 24)
  simp (config := {maxSteps := 1000000}) only [↓zvN, zvU, ↓up_apply, ↓hv_apply, ↓upO_some, ↓upO_none, ↓ev_tmp, ↓ev_const, ↓ev_func, ↓ev_global, init, Nat.reduceEqDiff, Nat.reduceAdd, Nat.reduceMul, Nat.reduceSub, ↓reduceIte, Int.reduceEq, Int.reduceNe, Nat.reduceLeDiff, one, Value.cells, Int.reduceLE, Int.reduceLT, Int.reduceToNat, add_mk, reduceCtorEq, List.mem_range'_1, true_and, and_true, and_false, false_and, Nat.reduceLT, Nat.reduceLeDiff, tyF]
  generalize w.alloc (.cells p.cells.toArray 24) = w1 at hm1 hb1 s1 ⊢
  rw [List.toList_toArray] at hb1
  obtain ⟨pb, hpb⟩ : ∃ q, w.heap.size = q := ⟨_, rfl⟩
  rw [hpb] at hb1 s1 ⊢
  have hT1 := hT.more hm1
  have hpl : p.cells.length = 8 := by simp [PrefM.cells, hp]
  have v1 := hb1.all_eq 8 hpl
  have c0 := hT1.tab.cell 0
  simp only [List.getElem?_cons_zero] at c0
  have htl := hT1.tab.lt
  refine draw_line w1.heap.size More [0, 0, 1, 1, 1, 0, 0, 0, 0, 0, 0, 0, 0] [[], [], [1], [1, 2], [0, 1, 2, 3], [], [5], [5, 6], [5, 6, 7], [5, 6, 7, 8], [5, 6, 7, 8, 9], [0, 1, 2, 3, 4, 5, 6, 7, 8, 9, 10], [0, 1, 2, 3, 4, 5, 6, 7, 8, 9, 10, 11]] mixed (by kernel_rfl) (by kernel_rfl) (More.refl _) (fun w' h => h) (fun w' h => h) ?_
  intro w2 hm2
  simp (config := {maxSteps := 1000000}) only [↓zvN, zvU, ↓zqD, ↓sk_nil, ↓sk_cons, ↓sk_guard, ↓sk_zero, ↓sk_one, ↓sk_two, ↓up_apply, ↓hv_apply, ↓upO_some, ↓upO_none, ↓ev_tmp, ↓ev_const, ↓ev_func, ↓ev_global, init, Nat.reduceEqDiff, Nat.reduceAdd, Nat.reduceMul, Nat.reduceSub, ↓reduceIte, Int.reduceEq, Int.reduceNe, Nat.reduceLeDiff, one, Value.cells, Int.reduceLE, Int.reduceLT, Int.reduceToNat, add_mk, reduceCtorEq, List.mem_range'_1, true_and, and_true, and_false, false_and, Nat.reduceLT, Nat.reduceLeDiff, tyF, v1, s1, c0, htl, key0 w1]
  refine call_ok Try.call44 (table_bytesOf w2 p hp) ?_
  rintro _ w3 ⟨g, c, rfl, hg, hB3, hc3, hm3⟩
  have hm13 := hm2.trans hm3.1
  simp (config := {maxSteps := 1000000}) only [↓zvN, zvU, ↓zqD, ↓sk_nil, ↓sk_cons, ↓sk_guard, ↓sk_zero, ↓sk_one, ↓sk_two, ↓up_apply, ↓hv_apply, ↓upO_some, ↓upO_none, ↓ev_tmp, ↓ev_const, ↓ev_func, ↓ev_global, init, Nat.reduceEqDiff, Nat.reduceAdd, Nat.reduceMul, Nat.reduceSub, ↓reduceIte, Int.reduceEq, Int.reduceNe, Nat.reduceLeDiff, one, Value.cells, Int.reduceLE, Int.reduceLT, Int.reduceToNat, add_mk, reduceCtorEq, List.mem_range'_1, true_and, and_true, and_false, false_and, Nat.reduceLT, Nat.reduceLeDiff, tyF]
  refine ⟨hm13, ?_⟩
  refine bslice (z := .slice none 0 0) (cells := #[.slice (some ⟨g, 0, none⟩) 8 c]) Try.underlying141 bytesE (by omega) (by have := bcells_list (z := .slice none 0 0) [.slice (some ⟨g, 0, none⟩) 8 c] (by intro v hv; simp at hv; subst hv; rfl); exact this) ?_
  have hm4 := more_alloc w3 (.cells #[.slice (some ⟨g, 0, none⟩) 8 c] 87)
  have hb4 := Blk.new w3 87 #[.slice (some ⟨g, 0, none⟩) 8 c]
  generalize w3.alloc (.cells #[.slice (some ⟨g, 0, none⟩) 8 c] 87) = w4 at hm4 hb4 ⊢
  have hm14 := hm13.trans hm4
  simp (config := {maxSteps := 1000000}) only [↓zvN, zvU, ↓zqD, ↓sk_nil, ↓sk_cons, ↓sk_guard, ↓sk_zero, ↓sk_one, ↓sk_two, ↓up_apply, ↓hv_apply, ↓upO_some, ↓upO_none, ↓ev_tmp, ↓ev_const, ↓ev_func, ↓ev_global, init, Nat.reduceEqDiff, Nat.reduceAdd, Nat.reduceMul, Nat.reduceSub, ↓reduceIte, Int.reduceEq, Int.reduceNe, Nat.reduceLeDiff, one, Value.cells, Int.reduceLE, Int.reduceLT, Int.reduceToNat, add_mk, reduceCtorEq, List.mem_range'_1, true_and, and_true, and_false, false_and, Nat.reduceLT, Nat.reduceLeDiff, tyF]
  refine ⟨hm14, ?_⟩
  have hsum := sip_sum w4 (noBytes 16) (some ⟨w3.heap.size, 0, none⟩) [⟨some ⟨g, 0, none⟩, pkey p, c⟩] 1 rfl (by have := hb4.cs; simpa [PartM.cell, pkey_len hp] using this) (by intro x hx; simp at hx; subst hx; exact hB3.more hm4) (by simp [joinP, pkey_len hp]) (by simp)
  rw [show joinP [⟨some ⟨g, 0, none⟩, pkey p, c⟩] = pkey p by simp [joinP]] at hsum
  have hrg := sipM_range (noBytes 16) (pkey p)
  have hhash : hashM p ls.length = (sipM (noBytes 16) (pkey p)).toNat % ls.length := rfl
  obtain ⟨x, hx⟩ : ∃ x, x = sipM (noBytes 16) (pkey p) := ⟨_, rfl⟩
  rw [← hx] at hsum hrg hhash
  clear hx
  refine call_ok Try.call64 hsum ?_
  rintro _ w5 ⟨rfl, hm5⟩
  have hm15 := hm14.trans hm5
  have hpos := hT.pos
  have hle := hT.le
  have eu : IntKind.u64.wrap (ls.length : Int) = ls.length := wu64 (by omega) (by omega)
  have ne0 : ¬ ((ls.length : Int) = 0) := by omega
  have ne1 : ¬ (ls.length = 0) := by omega
  simp (config := {maxSteps := 1000000}) only [↓zvN, zvU, ↓zqD, ↓sk_nil, ↓sk_cons, ↓sk_guard, ↓sk_zero, ↓sk_one, ↓sk_two, ↓up_apply, ↓hv_apply, ↓upO_some, ↓upO_none, ↓ev_tmp, ↓ev_const, ↓ev_func, ↓ev_global, init, Nat.reduceEqDiff, Nat.reduceAdd, Nat.reduceMul, Nat.reduceSub, ↓reduceIte, Int.reduceEq, Int.reduceNe, Nat.reduceLeDiff, one, Value.cells, Int.reduceLE, Int.reduceLT, Int.reduceToNat, add_mk, reduceCtorEq, List.mem_range'_1, true_and, and_true, and_false, false_and, Nat.reduceLT, Nat.reduceLeDiff, tyF, c0, eu, ne0, ne1]
  refine ⟨hm15, ?_⟩
  have hT5 := hT1.more hm15
  have c5 := hT5.tab.cell 0
  simp only [List.getElem?_cons_zero] at c5
  obtain ⟨fr, hfr⟩ : ∃ f, f = hashM p ls.length := ⟨_, rfl⟩
  have hfl : fr < ls.length := by rw [hfr, hhash]; exact Nat.mod_lt _ hpos
  have erem : Int.tmod x (ls.length : Int) = (fr : Int) := by
    rw [hfr, hhash, Int.tmod_eq_emod_of_nonneg hrg.1]
    obtain ⟨xn, rfl⟩ := Int.eq_ofNat_of_zero_le hrg.1
    simp
  have ewr : IntKind.u64.wrap (fr : Int) = fr := wu64 (by omega) (by omega)
  have ewi : IntKind.i64.wrap (fr : Int) = fr := w64 (by omega) (by omega)
  try simp (config := {maxSteps := 1000000}) only [↓zvN, zvU, ↓up_apply, ↓hv_apply, ↓upO_some, ↓upO_none, ↓ev_tmp, ↓ev_const, ↓ev_func, ↓ev_global, init, Nat.reduceEqDiff, Nat.reduceAdd, Nat.reduceMul, Nat.reduceSub, ↓reduceIte, Int.reduceEq, Int.reduceNe, Nat.reduceLeDiff, one, Value.cells, Int.reduceLE, Int.reduceLT, Int.reduceToNat, add_mk, reduceCtorEq, List.mem_range'_1, true_and, and_true, and_false, false_and, Nat.reduceLT, Nat.reduceLeDiff, tyF, c5, erem, ewr]
  refine loop_p (6 :: 8 :: 9 :: 10 :: List.range' 30 51) (fun e w' => FindJ ls p w5 (e 6) (e 30) w') (fun e _ => ls.length - (numOf (e 30)).toNat) ?_ ?_
  · exact ⟨0, -1, by simp only [hv_apply, up_apply, upO_some, upO_none, init, List.mem_cons, List.mem_range'_1, true_and, and_true, and_false, false_and, Nat.reduceLT, Nat.reduceLeDiff, Nat.reduceAdd, true_or, or_true, if_true, if_false, ↓reduceIte, Nat.reduceEqDiff, false_or, or_false, List.not_mem_nil, List.getElem?_cons_zero, List.getElem?_cons_succ, Option.getD_some] <;> rfl, by omega, by simp only [hv_apply, up_apply, upO_some, upO_none, init, List.mem_cons, List.mem_range'_1, true_and, and_true, and_false, false_and, Nat.reduceLT, Nat.reduceLeDiff, Nat.reduceAdd, true_or, or_true, if_true, if_false, ↓reduceIte, Nat.reduceEqDiff, false_or, or_false, List.not_mem_nil, List.getElem?_cons_zero, List.getElem?_cons_succ, Option.getD_some] <;> rfl, rfl, More.refl _⟩
  rintro v w6 ⟨k, s, h30, hk, h6, hsc, hm6⟩
  simp only [hv_apply, up_apply, upO_some, upO_none, init, List.mem_cons, List.mem_range'_1, true_and, and_true, and_false, false_and, Nat.reduceLT, Nat.reduceLeDiff, Nat.reduceAdd, true_or, or_true, if_true, if_false, ↓reduceIte, Nat.reduceEqDiff, false_or, or_false, List.not_mem_nil, List.getElem?_cons_zero, List.getElem?_cons_succ, Option.getD_some] at h30 h6
  have ek : IntKind.i64.wrap ((k : Int) + 1) = ((k + 1 : Nat) : Int) := w64 (by omega) (by omega)
  simp (config := {maxSteps := 1000000}) only [↓zvN, zvU, ↓up_apply, ↓hv_apply, ↓upO_some, ↓upO_none, ↓ev_tmp, ↓ev_const, ↓ev_func, ↓ev_global, init, Nat.reduceEqDiff, Nat.reduceAdd, Nat.reduceMul, Nat.reduceSub, ↓reduceIte, Int.reduceEq, Int.reduceNe, Nat.reduceLeDiff, one, Value.cells, Int.reduceLE, Int.reduceLT, Int.reduceToNat, add_mk, reduceCtorEq, List.mem_range'_1, true_and, and_true, and_false, false_and, Nat.reduceLT, Nat.reduceLeDiff, tyF, h30, h6]
  refine ⟨fun h9 => ?_, fun h9 => ?_⟩
  rotate_left
  · obtain rfl : k = ls.length := by omega
    rw [Nat.sub_self] at hsc
    unfold scanM at hsc
    try simp (config := {maxSteps := 1000000}) only [↓zvN, zvU, ↓up_apply, ↓hv_apply, ↓upO_some, ↓upO_none, ↓ev_tmp, ↓ev_const, ↓ev_func, ↓ev_global, init, Nat.reduceEqDiff, Nat.reduceAdd, Nat.reduceMul, Nat.reduceSub, ↓reduceIte, Int.reduceEq, Int.reduceNe, Nat.reduceLeDiff, one, Value.cells, Int.reduceLE, Int.reduceLT, Int.reduceToNat, add_mk, reduceCtorEq, List.mem_range'_1, true_and, and_true, and_false, false_and, Nat.reduceLT, Nat.reduceLeDiff, tyF, h30, h6]
    rw [← hsc]
    exact ⟨rfl, (hm1.trans hm15).trans hm6⟩
  have hT6 := hT5.more hm6
  have c6 := hT6.tab.cell 0
  simp only [List.getElem?_cons_zero] at c6
  obtain ⟨i, hi⟩ : ∃ i, i = (fr + k) % ls.length := ⟨_, rfl⟩
  have hil : i < ls.length := by rw [hi]; exact Nat.mod_lt _ hpos
  have eadd : IntKind.i64.wrap ((fr : Int) + (k : Int)) = ((fr + k : Nat) : Int) := w64 (by omega) (by omega)
  have emod : Int.tmod ((fr + k : Nat) : Int) (ls.length : Int) = (i : Int) := by
    rw [hi, Int.tmod_eq_emod_of_nonneg (by omega)]
    simp
  have ewi2 : IntKind.i64.wrap (i : Int) = i := w64 (by omega) (by omega)
  obtain ⟨y, hy⟩ := row_nat ls i hil
  have hsc' : scanM ls p fr (ls.length - (k + 1) + 1) k s = findM ls p := by rw [show ls.length - (k + 1) + 1 = ls.length - k by omega, hfr]; exact hsc
  unfold scanM at hsc'
  rw [← hi] at hsc'
  simp only [hy] at hsc'
  have vrow := blk_elem hT6.row hT.ok.lens hy
  have g0 : (0 : Int) ≤ (i : Int) := by omega
  have hilI : (i : Int) < (ls.length : Int) := by omega
  simp (config := {maxSteps := 1000000}) only [↓zvN, zvU, ↓up_apply, ↓hv_apply, ↓upO_some, ↓upO_none, ↓ev_tmp, ↓ev_const, ↓ev_func, ↓ev_global, init, Nat.reduceEqDiff, Nat.reduceAdd, Nat.reduceMul, Nat.reduceSub, ↓reduceIte, Int.reduceEq, Int.reduceNe, Nat.reduceLeDiff, one, Value.cells, Int.reduceLE, Int.reduceLT, Int.reduceToNat, add_mk, reduceCtorEq, List.mem_range'_1, true_and, and_true, and_false, false_and, Nat.reduceLT, Nat.reduceLeDiff, tyF, h30, h6, c6, eadd, emod, ewi, ewi2, ne0, ne1, hil, vrow, g0, Int.toNat_natCast, hilI, zerPlace_box]
  have hyo := hT.ok y (List.mem_of_getElem? hy)
  have hm7 := more_alloc w6 (.cells (PlaceM.mk 0 prefZ [.int .i64 0, .pointer none]).cells.toArray 139)
  have hb7 := Blk.new w6 139 (PlaceM.mk 0 prefZ [.int .i64 0, .pointer none]).cells.toArray
  obtain ⟨w7, hw7⟩ : ∃ w7, w6.alloc (.cells (PlaceM.mk 0 prefZ [.int .i64 0, .pointer none]).cells.toArray 139) = w7 := ⟨_, rfl⟩
  rw [hw7] at hm7 hb7 ⊢
  clear hw7
  refine st_all hb7 (by simpa using hyo.len) (by rfl) (by simpa using hyo.ones) fun w8 j1 j2 => ?_
  rw [List.toList_toArray] at j2
  have hm8 : More w6 w8 := more_but hm7 (But.of_wr j1) (Nat.le_refl _)
  have hm18 := hm15.trans (hm6.trans hm8)
  have hT8 := hT6.more hm8
  have c8 := hT8.tab.cell 0
  simp only [List.getElem?_cons_zero] at c8
  obtain ⟨qb, hqb⟩ : ∃ q, w6.heap.size = q := ⟨_, rfl⟩
  rw [hqb] at j2 ⊢
  have d0 : w8.cell? ⟨qb, 0, none⟩ = some (.int .i64 y.state) := by rw [j2.cell]; rfl
  have d1 : ∀ K : Value → Prop, ldRow 8 ⟨qb, 1, none⟩ w8 K = K (.agg y.p.cells.toArray) := fun K => by
    have hl := hyo.len
    have h8 : y.p.cells.length = 8 := by simp [PrefM.cells, hyo.pre]
    simp only [PlaceM.cells, List.length_cons, List.length_append, h8] at hl
    rw [j2.row_eq 1 8 (by simp only [PlaceM.cells, List.length_cons, List.length_append, h8]; omega)]
    congr 2
    simp only [PlaceM.cells, List.drop_succ_cons, List.drop_zero]
    rw [List.take_append_of_le_length (by omega), List.take_of_length_le (by omega)]
  have d2 := (hb1.more hm18).all_eq 8 hpl
  have d3 : w8.cell? ⟨b, i * 11, none⟩ = some (.int .i64 y.state) := by
    have := blk_elemC (j := 0) hT8.row hT.ok.lens hy (by omega)
    rw [Nat.add_zero] at this
    rw [this]; rfl
  rw [s2_undef]
  have peq := pref_eq hyo.pre hp w8
  by_cases h1 : y.state = 1
  · rw [h1] at d0 d3
    by_cases h2 : y.p = p
    · rw [if_pos ⟨h1, h2⟩] at hsc'
      have peq2 : ∀ ox oy K, _ := fun ox oy K => (peq ox oy K).trans (show _ = K (.bool true) by simp only [h2, decide_true])
      simp (config := {maxSteps := 1000000}) only [↓zvN, zvU, ↓up_apply, ↓hv_apply, ↓upO_some, ↓upO_none, ↓ev_tmp, ↓ev_const, ↓ev_func, ↓ev_global, init, Nat.reduceEqDiff, Nat.reduceAdd, Nat.reduceMul, Nat.reduceSub, ↓reduceIte, Int.reduceEq, Int.reduceNe, Nat.reduceLeDiff, one, Value.cells, Int.reduceLE, Int.reduceLT, Int.reduceToNat, add_mk, reduceCtorEq, List.mem_range'_1, true_and, and_true, and_false, false_and, Nat.reduceLT, Nat.reduceLeDiff, tyF, h30, h6, d0, d1, d2, peq2]
      rw [← hsc']
      exact ⟨rfl, hm1.trans hm18⟩
    · rw [if_neg (fun h => h2 h.2)] at hsc'
      simp only [h1, if_neg (show ¬ ((1 : Int) = 0) by omega), ne_eq, not_true_eq_false, false_and, if_false] at hsc'
      simp (config := {maxSteps := 1000000}) only [↓zvN, zvU, ↓up_apply, ↓hv_apply, ↓upO_some, ↓upO_none, ↓ev_tmp, ↓ev_const, ↓ev_func, ↓ev_global, init, Nat.reduceEqDiff, Nat.reduceAdd, Nat.reduceMul, Nat.reduceSub, ↓reduceIte, Int.reduceEq, Int.reduceNe, Nat.reduceLeDiff, one, Value.cells, Int.reduceLE, Int.reduceLT, Int.reduceToNat, add_mk, reduceCtorEq, List.mem_range'_1, true_and, and_true, and_false, false_and, Nat.reduceLT, Nat.reduceLeDiff, tyF, h30, h6, d0, d1, d2, d3, c8, peq, h2, hilI, g0, hil, Int.toNat_natCast]
      rw [ek]
      refine ⟨⟨?_, k + 1, _, rfl, by omega, rfl, by rw [← hfr]; exact hsc', hm6.trans hm8⟩, by simp only [numOf]; omega⟩
      repeat (first | exact Same.hv _ _ _ | refine Same.up (by simp) ?_)
  · rw [if_neg (fun h => h1 h.1)] at hsc'
    by_cases h3 : s < 0
    · simp only [h1, h3, ne_eq, not_false_eq_true, and_self, if_true] at hsc'
      by_cases h4 : y.state = 0
      · simp only [h4, if_true] at hsc'
        simp (config := {maxSteps := 1000000}) only [↓zvN, zvU, ↓up_apply, ↓hv_apply, ↓upO_some, ↓upO_none, ↓ev_tmp, ↓ev_const, ↓ev_func, ↓ev_global, init, Nat.reduceEqDiff, Nat.reduceAdd, Nat.reduceMul, Nat.reduceSub, ↓reduceIte, Int.reduceEq, Int.reduceNe, Nat.reduceLeDiff, one, Value.cells, Int.reduceLE, Int.reduceLT, Int.reduceToNat, add_mk, reduceCtorEq, List.mem_range'_1, true_and, and_true, and_false, false_and, Nat.reduceLT, Nat.reduceLeDiff, tyF, h30, h6, d0, d1, d2, d3, c8, h1, h3, h4, hilI, g0, hil, Int.toNat_natCast]
        rw [← hsc']
        exact ⟨rfl, hm1.trans hm18⟩
      · simp only [h4, if_false] at hsc'
        simp (config := {maxSteps := 1000000}) only [↓zvN, zvU, ↓up_apply, ↓hv_apply, ↓upO_some, ↓upO_none, ↓ev_tmp, ↓ev_const, ↓ev_func, ↓ev_global, init, Nat.reduceEqDiff, Nat.reduceAdd, Nat.reduceMul, Nat.reduceSub, ↓reduceIte, Int.reduceEq, Int.reduceNe, Nat.reduceLeDiff, one, Value.cells, Int.reduceLE, Int.reduceLT, Int.reduceToNat, add_mk, reduceCtorEq, List.mem_range'_1, true_and, and_true, and_false, false_and, Nat.reduceLT, Nat.reduceLeDiff, tyF, h30, h6, d0, d1, d2, d3, c8, h1, h3, h4, hilI, g0, hil, Int.toNat_natCast]
        rw [ek]
        refine ⟨⟨?_, k + 1, _, rfl, by omega, rfl, by rw [← hfr]; exact hsc', hm6.trans hm8⟩, by simp only [numOf]; omega⟩
        repeat (first | exact Same.hv _ _ _ | refine Same.up (by simp) ?_)
    · simp only [h3, and_false, if_false] at hsc'
      by_cases h4 : y.state = 0
      · simp only [h4, if_true] at hsc'
        simp (config := {maxSteps := 1000000}) only [↓zvN, zvU, ↓up_apply, ↓hv_apply, ↓upO_some, ↓upO_none, ↓ev_tmp, ↓ev_const, ↓ev_func, ↓ev_global, init, Nat.reduceEqDiff, Nat.reduceAdd, Nat.reduceMul, Nat.reduceSub, ↓reduceIte, Int.reduceEq, Int.reduceNe, Nat.reduceLeDiff, one, Value.cells, Int.reduceLE, Int.reduceLT, Int.reduceToNat, add_mk, reduceCtorEq, List.mem_range'_1, true_and, and_true, and_false, false_and, Nat.reduceLT, Nat.reduceLeDiff, tyF, h30, h6, d0, d1, d2, d3, c8, h1, h3, h4, hilI, g0, hil, Int.toNat_natCast]
        rw [← hsc']
        exact ⟨rfl, hm1.trans hm18⟩
      · simp only [h4, if_false] at hsc'
        simp (config := {maxSteps := 1000000}) only [↓zvN, zvU, ↓up_apply, ↓hv_apply, ↓upO_some, ↓upO_none, ↓ev_tmp, ↓ev_const, ↓ev_func, ↓ev_global, init, Nat.reduceEqDiff, Nat.reduceAdd, Nat.reduceMul, Nat.reduceSub, ↓reduceIte, Int.reduceEq, Int.reduceNe, Nat.reduceLeDiff, one, Value.cells, Int.reduceLE, Int.reduceLT, Int.reduceToNat, add_mk, reduceCtorEq, List.mem_range'_1, true_and, and_true, and_false, false_and, Nat.reduceLT, Nat.reduceLeDiff, tyF, h30, h6, d0, d1, d2, d3, c8, h1, h3, h4, hilI, g0, hil, Int.toNat_natCast]
        rw [ek]
        refine ⟨⟨?_, k + 1, _, rfl, by omega, rfl, by rw [← hfr]; exact hsc', hm6.trans hm8⟩, by simp only [numOf]; omega⟩
        repeat (first | exact Same.hv _ _ _ | refine Same.up (by simp) ?_)
end Go.Proofs.Ytimhcjakpdebjaa
