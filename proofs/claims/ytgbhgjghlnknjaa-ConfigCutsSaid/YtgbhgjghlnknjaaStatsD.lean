/-
  Layer 29: stats of bytes.
-/
import Derived.Test.YtgbhgjghlnknjaaStatsE
import Derived.Test.YtgbhgjghlnknjaaCurMore
import Derived.Test.YtgbhgjghlnknjaaEther
import Derived.Test.YtgbhgjghlnknjaaRw
namespace Go.Proofs.Ytgbhgjghlnknjaa
open Go Go.RowKit Go.Proofs.RV
set_option linter.unusedSimpArgs false
set_option linter.unusedVariables false
set_option maxRecDepth 10000
set_option maxHeartbeats 4000000

/-- the k-th number of bytes -/
def numAt (l : List UInt8) (k : Nat) : Int := be ((l.drop (8 * k)).take 8)
def okStats (l : List UInt8) : Prop := l.length = 248 ∧ ∀ i, i < 31 → numAt l i ≤ 4611686018427387904
def nums (l : List UInt8) : List Int := (List.range 31).map (numAt l)
open Classical in
noncomputable def decM (l : List UInt8) : List Int × Int := if okStats l then (nums l, 0) else (List.replicate 31 0, 2)
def DecR (l : List UInt8) (w : World) (v : Value) (w' : World) : Prop := v = .tuple #[.agg (ints (decM l).1).toArray, .int .i64 (decM l).2] ∧ More w w'
theorem InW.wr {w w' : World} {F : Nat → Prop} {q p : Nat} {s : InM} (h : InW w F q s) (hw : Wr p w w') (hq : q ≠ p) (hF : ∀ k, F k → k ≠ p) : InW w' F q s := by
  obtain ⟨A, c, hb, hA, hc, hne, hA2⟩ := h
  exact ⟨A, c, hw.blk hb hq, hw.cs hA fun a ha => hF _ (hA2 a ha), hc, hne, hA2⟩
def DecI (l : List UInt8) (k : Nat) (s : InM) (vs : List Int) : Prop :=
  (s = ⟨l.drop (8 * k), false⟩ ∧ 8 * k ≤ l.length ∧ ∀ i, i < k → numAt l i ≤ 4611686018427387904 ∧ vs[i]? = some (numAt l i)) ∨ (s.bad = true ∧ ¬ okStats l)
theorem dec_step {l : List UInt8} {k : Nat} {s : InM} {vs : List Int} (h : DecI l k s vs) (hk : k < 31) (hv : vs.length = 31) :
    DecI l (k + 1) (if 4611686018427387904 < be (s.take 8).1 then ⟨(s.take 8).2.rest, true⟩ else (s.take 8).2) (vs.set k (IntKind.i64.wrap (be (s.take 8).1))) := by
  rcases h with ⟨rfl, hl, hall⟩ | ⟨hb, hno⟩
  · rcases Nat.lt_or_ge l.length (8 * k + 8) with hs | hs
    · right
      have e : (InM.mk (l.drop (8 * k)) false).take 8 = ([], ⟨l.drop (8 * k), true⟩) := take_short (n := 8) (by rw [List.length_drop]; omega)
      rw [e]
      refine ⟨by split <;> rfl, fun ho => ?_⟩
      have := ho.1
      omega
    · have e : (InM.mk (l.drop (8 * k)) false).take 8 = ((l.drop (8 * k)).take 8, ⟨(l.drop (8 * k)).drop 8, false⟩) := take_ok (n := 8) (by rw [List.length_drop]; omega)
      rw [e, List.drop_drop]
      have hn : be ((l.drop (8 * k)).take 8) = numAt l k := rfl
      simp only [hn]
      rcases Int.lt_or_le 4611686018427387904 (numAt l k) with hx | hx
      · right
        rw [if_pos hx]
        exact ⟨rfl, fun ho => by have := ho.2 k hk; omega⟩
      · left
        rw [if_neg (by omega)]
        refine ⟨by rw [Nat.mul_succ], by omega, fun i hi => ?_⟩
        have hr : 0 ≤ numAt l k := (be_range _).1
        rcases Nat.lt_or_ge i k with h1 | h1
        · refine ⟨(hall i h1).1, ?_⟩
          rw [List.getElem?_set_ne (by omega)]
          exact (hall i h1).2
        · obtain rfl : i = k := by omega
          refine ⟨hx, ?_⟩
          rw [List.getElem?_set_self (by omega), w64 (by omega) (by omega)]
  · right
    rw [take_badI hb]
    exact ⟨by split <;> rfl, hno⟩
theorem dec_end {l : List UInt8} {s : InM} {vs : List Int} (h : DecI l 31 s vs) (hv : vs.length = 31) : (s.done = true → okStats l ∧ vs = nums l) ∧ (s.done = false → ¬ okStats l) := by
  rcases h with ⟨rfl, hl, hall⟩ | ⟨hb, hno⟩
  · have hd : (InM.mk (l.drop (8 * 31)) false).done = decide (l.length - 248 = 0) := by simp [InM.done]
    rw [hd]
    refine ⟨fun h => ⟨⟨by have := of_decide_eq_true h; omega, fun i hi => (hall i hi).1⟩, ?_⟩, fun h ho => ?_⟩
    · apply List.ext_getElem?
      intro i
      rcases Nat.lt_or_ge i 31 with hi | hi
      · rw [(hall i hi).2]
        simp [nums, hi]
      · rw [List.getElem?_eq_none (by omega), List.getElem?_eq_none (by simp [nums]; omega)]
    · have := of_decide_eq_false h
      have := ho.1
      omega
  · have hd : s.done = false := by simp [InM.done, hb]
    rw [hd]
    exact ⟨fun h => by simp at h, fun _ => hno⟩
def z31 : List Int := List.replicate 31 0
theorem zerStats : zer Try.prog 65 = some (.agg (ints z31).toArray) := by rw [zer65]; rfl
theorem statFields (f : Field) (h : f ∈ (#[{ name := "N", type := 62, offset := 0, embedded := false, tag := "", pkgPath := "", byteOffset := 0 }, { name := "Reasons", type := 63, offset := 15, embedded := false, tag := "", pkgPath := "", byteOffset := 120 }] : Array Field)) : Try.prog.cellsOf f.type ≠ 0 := by
  simp only [List.mem_toArray, List.mem_cons, List.not_mem_nil, or_false] at h
  rcases h with rfl | rfl <;> simp [cells62, cells63]
theorem stat_build0 (w0 : World) (K : Value → Prop) : pureP Try.prog (Instr.build 65 #[]) K = K (.agg (ints z31).toArray) :=
  build0_eq Try.underlying65 zerStats statFields w0 K
theorem ints_len (s : List Int) : (ints s).length = s.length := by simp [ints]
theorem ints_one (s : List Int) : ∀ u ∈ ints s, u.oneCell' = true := by
  intro u hu
  obtain ⟨n, _, rfl⟩ := List.mem_map.1 hu
  rfl
def DecJ (l : List UInt8) (w : World) (F : Nat → Prop) (q p : Nat) (A4 : Option Addr) (v13 : Value) (w' : World) : Prop :=
  ∃ (k : Nat) (s : InM) (vs : List Int), v13 = .int .i64 k ∧ k ≤ 31 ∧ InW w' F q s ∧ s.rest.length ≤ l.length ∧ vs.length = 31 ∧ Blk w' p 65 (ints vs) ∧ Blk w' w.heap.size 65 (ints z31) ∧ Cs w' A4 (ptrs p 31) ∧ More w w' ∧ DecI l k s vs
theorem stats_decode (w : World) (A : Option Addr) (l : List UInt8) (c : Nat) (hA : Bs w A l) (hl : l.length ≤ 1000000) :
    Ret Try.prog 35 #[.slice A l.length c] w (DecR l w) := by
  refine ret_of Try.func35 rfl (by kernel_rfl) (Nat.le_of_ble_eq_true (by kernel_rfl)) ?_
  have hm1 := more_alloc w (.cells (ints z31).toArray 65)
  have hb1 := Blk.new w 65 (ints z31).toArray
  have s1 := size_alloc w (.cells (ints z31).toArray 65)
  simp (config := {maxSteps := 1000000}) only [↓zvD, zvU, ↓up_apply, ↓hv_apply, ↓upO_some, ↓upO_none, ↓ev_tmp, ↓ev_const, ↓ev_func, ↓ev_global, init, Nat.reduceEqDiff, Nat.reduceAdd, Nat.reduceMul, Nat.reduceSub, ↓reduceIte, Int.reduceEq, Int.reduceNe, Nat.reduceLeDiff, one, Value.cells, Int.reduceLE, Int.reduceLT, Int.reduceToNat, add_mk, reduceCtorEq, List.mem_range'_1, true_and, and_true, and_false, false_and, Nat.reduceLT, Nat.reduceLeDiff, tyF, zerStats]
  generalize w.alloc (.cells (ints z31).toArray 65) = w1 at hm1 hb1 s1 ⊢
  have hm2 := more_alloc w1 (.cells (ints z31).toArray 65)
  have hb2 := Blk.new w1 65 (ints z31).toArray
  have s2 := size_alloc w1 (.cells (ints z31).toArray 65)
  generalize w1.alloc (.cells (ints z31).toArray 65) = w2 at hm2 hb2 s2 ⊢
  rw [List.toList_toArray] at hb1 hb2
  have hb12 := hb1.more hm2
  replace hm2 := hm1.trans hm2
  refine call_ok Try.call63 (cur_new w2 A l c (hA.more hm2) hl) ?_
  rintro _ w3 ⟨q, rfl, hq, hI3, hm3⟩
  have hb23 := hb2.more hm3
  simp (config := {maxSteps := 1000000}) only [↓zvD, zvU, ↓up_apply, ↓hv_apply, ↓upO_some, ↓upO_none, ↓ev_tmp, ↓ev_const, ↓ev_func, ↓ev_global, init, Nat.reduceEqDiff, Nat.reduceAdd, Nat.reduceMul, Nat.reduceSub, ↓reduceIte, Int.reduceEq, Int.reduceNe, Nat.reduceLeDiff, one, Value.cells, Int.reduceLE, Int.reduceLT, Int.reduceToNat, add_mk, reduceCtorEq, List.mem_range'_1, true_and, and_true, and_false, false_and, Nat.reduceLT, Nat.reduceLeDiff, tyF]
  refine call_ok Try.call67 (stats_all w3 _ z31 rfl hb23) ?_
  rintro _ w4 ⟨A4, c4, rfl, ho4, hm4⟩
  simp (config := {maxSteps := 1000000}) only [↓zvD, zvU, ↓up_apply, ↓hv_apply, ↓upO_some, ↓upO_none, ↓ev_tmp, ↓ev_const, ↓ev_func, ↓ev_global, init, Nat.reduceEqDiff, Nat.reduceAdd, Nat.reduceMul, Nat.reduceSub, ↓reduceIte, Int.reduceEq, Int.reduceNe, Nat.reduceLeDiff, one, Value.cells, Int.reduceLE, Int.reduceLT, Int.reduceToNat, add_mk, reduceCtorEq, List.mem_range'_1, true_and, and_true, and_false, false_and, Nat.reduceLT, Nat.reduceLeDiff, tyF]
  obtain ⟨g4, e4, hg4, hg4'⟩ := ho4.at' (by omega)
  subst e4
  have hq3 : q < w3.heap.size := by obtain ⟨_, _, h, _⟩ := hI3; exact h.lt
  have hm24 := hm2.trans (hm3.trans hm4)
  have s3 := hm3.size
  have s4 := hm4.size
  refine loop_p [7, 8, 13, 14, 15, 16, 17, 18, 19, 20, 21, 22, 23, 24, 25, 26, 27] (fun e w' => DecJ l w (fun k => w2.heap.size ≤ k ∧ k < q) q w1.heap.size (some ⟨g4, 0, none⟩) (e 13) w') (fun e _ => 31 - (numOf (e 13)).toNat) ?_ ?_
  · exact ⟨0, ⟨l, false⟩, z31, by simp only [hv_apply, up_apply, upO_some, upO_none, init, List.mem_cons, List.mem_range'_1, true_and, and_true, and_false, false_and, Nat.reduceLT, Nat.reduceLeDiff, Nat.reduceAdd, true_or, or_true, if_true, if_false, ↓reduceIte, Nat.reduceEqDiff, false_or, or_false, List.not_mem_nil, List.getElem?_cons_zero, List.getElem?_cons_succ, Option.getD_some] <;> rfl, by omega, hI3.more hm4, Nat.le_refl _, rfl, hb23.more hm4, hb12.more (hm3.trans hm4), ho4.cs, hm24, .inl ⟨by simp, by omega, fun i hi => by omega⟩⟩
  rintro v w5 ⟨k, s, vs, h13, hk, hI5, hr5, hv5, hb5, hz5, hcs5, hm5, hd5⟩
  simp only [hv_apply, up_apply, upO_some, upO_none, init, List.mem_cons, List.mem_range'_1, true_and, and_true, and_false, false_and, Nat.reduceLT, Nat.reduceLeDiff, Nat.reduceAdd, true_or, or_true, if_true, if_false, ↓reduceIte, Nat.reduceEqDiff, false_or, or_false, List.not_mem_nil, List.getElem?_cons_zero, List.getElem?_cons_succ, Option.getD_some] at h13
  have ek : IntKind.i64.wrap ((k : Int) + 1) = ((k + 1 : Nat) : Int) := w64 (by omega) (by omega)
  have g0 : (0 : Int) ≤ (k : Int) := by omega
  simp (config := {maxSteps := 1000000}) only [↓zvD, zvU, ↓up_apply, ↓hv_apply, ↓upO_some, ↓upO_none, ↓ev_tmp, ↓ev_const, ↓ev_func, ↓ev_global, init, Nat.reduceEqDiff, Nat.reduceAdd, Nat.reduceMul, Nat.reduceSub, ↓reduceIte, Int.reduceEq, Int.reduceNe, Nat.reduceLeDiff, one, Value.cells, Int.reduceLE, Int.reduceLT, Int.reduceToNat, add_mk, reduceCtorEq, List.mem_range'_1, true_and, and_true, and_false, false_and, Nat.reduceLT, Nat.reduceLeDiff, tyF, h13]
  refine ⟨fun h9 => ?_, fun h9 => ?_⟩
  · have hk31 : k < 31 := by omega
    have hc : w5.cell? ⟨g4, k, none⟩ = some (.pointer (some ⟨w1.heap.size, k, none⟩)) := by
      obtain ⟨a, ha, hca⟩ := hcs5 k (.pointer (some ⟨w1.heap.size, k, none⟩)) (by simp [ptrs, hk31])
      cases ha
      rw [add_mk, Nat.zero_add] at hca
      exact hca
    simp (config := {maxSteps := 1000000}) only [↓zvD, zvU, ↓up_apply, ↓hv_apply, ↓upO_some, ↓upO_none, ↓ev_tmp, ↓ev_const, ↓ev_func, ↓ev_global, init, Nat.reduceEqDiff, Nat.reduceAdd, Nat.reduceMul, Nat.reduceSub, ↓reduceIte, Int.reduceEq, Int.reduceNe, Nat.reduceLeDiff, one, Value.cells, Int.reduceLE, Int.reduceLT, Int.reduceToNat, add_mk, reduceCtorEq, List.mem_range'_1, true_and, and_true, and_false, false_and, Nat.reduceLT, Nat.reduceLeDiff, tyF, h13, g0, h9, hc, Int.toNat_natCast]
    refine call_ok Try.call64 (cur_u64 w5 _ q s hI5 (by omega)) ?_
    rintro _ w6 ⟨rfl, hI6, hbt6⟩
    have hstep := dec_step hd5 hk31 hv5
    have hr6 : (s.take 8).2.rest.length ≤ l.length := by have := s.take_rest 8; omega
    have hb6 := hbt6.blk hb5 (by omega)
    have hz6 := hbt6.blk hz5 (by omega)
    have hcs6 := Mod.cs hbt6 hcs5 (fun x hx hq => by cases hx; simp only at hq; omega)
    have hm6 := more_but hm5 hbt6 (by omega)
    have fin : ∀ (b : Bool) (w7 : World), InW w7 (fun k => w2.heap.size ≤ k ∧ k < q) q ⟨(s.take 8).2.rest, b⟩ → Blk w7 w1.heap.size 65 (ints vs) → Blk w7 w.heap.size 65 (ints z31) → Cs w7 (some ⟨g4, 0, none⟩) (ptrs w1.heap.size 31) → More w w7 → DecI l (k + 1) ⟨(s.take 8).2.rest, b⟩ (vs.set k (IntKind.i64.wrap (be (s.take 8).1))) →
        stCell (.int .i64 (IntKind.i64.wrap (be (s.take 8).1))) ⟨w1.heap.size, k, none⟩ w7 fun w8 => DecJ l w (fun k => w2.heap.size ≤ k ∧ k < q) q w1.heap.size (some ⟨g4, 0, none⟩) (.int .i64 ((k + 1 : Nat) : Int)) w8 := by
      intro b w7 hI7 hb7 hz7 hcs7 hm7 hd7
      refine st_cell hb7 (by rw [ints_len]; omega) rfl fun w8 k1 k2 => ?_
      have hI8 := hI7.wr k1 (by omega) (fun k hk => by omega)
      refine ⟨k + 1, _, _, rfl, by omega, hI8, hr6, ?_, ?_, k1.blk hz7 (by omega), k1.cs hcs7 (fun a ha => by cases ha; simp only; omega), k1.below hm7 (by omega), hd7⟩
      · rw [List.length_set]; exact hv5
      · have e : (ints vs).set k (.int .i64 (IntKind.i64.wrap (be (s.take 8).1))) = ints (vs.set k (IntKind.i64.wrap (be (s.take 8).1))) := by simp [ints, List.map_set]
        rw [← e]; exact k2
    simp (config := {maxSteps := 1000000}) only [↓zvD, zvU, ↓up_apply, ↓hv_apply, ↓upO_some, ↓upO_none, ↓ev_tmp, ↓ev_const, ↓ev_func, ↓ev_global, init, Nat.reduceEqDiff, Nat.reduceAdd, Nat.reduceMul, Nat.reduceSub, ↓reduceIte, Int.reduceEq, Int.reduceNe, Nat.reduceLeDiff, one, Value.cells, Int.reduceLE, Int.reduceLT, Int.reduceToNat, add_mk, reduceCtorEq, List.mem_range'_1, true_and, and_true, and_false, false_and, Nat.reduceLT, Nat.reduceLeDiff, tyF, h13]
    refine ⟨fun hgt => ?_, fun hgt => ?_⟩
    · rw [if_pos hgt] at hstep
      refine call_ok Try.call68 (cur_fail w6 _ q _ hI6) ?_
      rintro _ w7 ⟨rfl, hI7, hbt7⟩
      simp (config := {maxSteps := 1000000}) only [↓zvD, zvU, ↓up_apply, ↓hv_apply, ↓upO_some, ↓upO_none, ↓ev_tmp, ↓ev_const, ↓ev_func, ↓ev_global, init, Nat.reduceEqDiff, Nat.reduceAdd, Nat.reduceMul, Nat.reduceSub, ↓reduceIte, Int.reduceEq, Int.reduceNe, Nat.reduceLeDiff, one, Value.cells, Int.reduceLE, Int.reduceLT, Int.reduceToNat, add_mk, reduceCtorEq, List.mem_range'_1, true_and, and_true, and_false, false_and, Nat.reduceLT, Nat.reduceLeDiff, tyF, h13]
      refine stCell_mono (fin true w7 hI7 (hbt7.blk hb6 (by omega)) (hbt7.blk hz6 (by omega)) (Mod.cs hbt7 hcs6 (fun x hx hq => by cases hx; simp only at hq; omega)) (more_but hm6 hbt7 (by omega)) hstep) fun w8 x4 => ?_
      simp (config := {maxSteps := 1000000}) only [↓zvD, zvU, ↓up_apply, ↓hv_apply, ↓upO_some, ↓upO_none, ↓ev_tmp, ↓ev_const, ↓ev_func, ↓ev_global, init, Nat.reduceEqDiff, Nat.reduceAdd, Nat.reduceMul, Nat.reduceSub, ↓reduceIte, Int.reduceEq, Int.reduceNe, Nat.reduceLeDiff, one, Value.cells, Int.reduceLE, Int.reduceLT, Int.reduceToNat, add_mk, reduceCtorEq, List.mem_range'_1, true_and, and_true, and_false, false_and, Nat.reduceLT, Nat.reduceLeDiff, tyF, h13, ek]
      refine ⟨⟨?_, x4⟩, by simp only [numOf]; omega⟩
      repeat (first | exact Same.hv _ _ _ | refine Same.up (by simp) ?_)
    · rw [if_neg (by omega)] at hstep
      refine stCell_mono (fin (s.take 8).2.bad w6 hI6 hb6 hz6 hcs6 hm6 hstep) fun w8 x4 => ?_
      simp (config := {maxSteps := 1000000}) only [↓zvD, zvU, ↓up_apply, ↓hv_apply, ↓upO_some, ↓upO_none, ↓ev_tmp, ↓ev_const, ↓ev_func, ↓ev_global, init, Nat.reduceEqDiff, Nat.reduceAdd, Nat.reduceMul, Nat.reduceSub, ↓reduceIte, Int.reduceEq, Int.reduceNe, Nat.reduceLeDiff, one, Value.cells, Int.reduceLE, Int.reduceLT, Int.reduceToNat, add_mk, reduceCtorEq, List.mem_range'_1, true_and, and_true, and_false, false_and, Nat.reduceLT, Nat.reduceLeDiff, tyF, h13, ek]
      refine ⟨⟨?_, x4⟩, by simp only [numOf]; omega⟩
      repeat (first | exact Same.hv _ _ _ | refine Same.up (by simp) ?_)
  · obtain rfl : k = 31 := by omega
    have hend := dec_end hd5 hv5
    refine call_ok Try.call65 (cur_done w5 _ q s hI5) ?_
    rintro _ w6 ⟨rfl, rfl⟩
    have hbv := hb5.all_eq 31 (by rw [ints_len, hv5])
    have hzv := hz5.all_eq 31 (by rw [ints_len]; rfl)
    cases hdn : s.done with
    | true =>
      obtain ⟨hok, rfl⟩ := hend.1 hdn
      simp (config := {maxSteps := 1000000}) only [↓zvD, zvU, ↓up_apply, ↓hv_apply, ↓upO_some, ↓upO_none, ↓ev_tmp, ↓ev_const, ↓ev_func, ↓ev_global, init, Nat.reduceEqDiff, Nat.reduceAdd, Nat.reduceMul, Nat.reduceSub, ↓reduceIte, Int.reduceEq, Int.reduceNe, Nat.reduceLeDiff, one, Value.cells, Int.reduceLE, Int.reduceLT, Int.reduceToNat, add_mk, reduceCtorEq, List.mem_range'_1, true_and, and_true, and_false, false_and, Nat.reduceLT, Nat.reduceLeDiff, tyF, hbv, hzv, stat_build0]
      refine st_all hz5 rfl (by rw [ints_len]; rfl) (ints_one _) fun w7 k1 k2 => ?_
      have hb7 := k1.below hm5 (Nat.le_refl _)
      have hv7 := k2.all_eq 31 rfl
      simp (config := {maxSteps := 1000000}) only [↓zvD, zvU, ↓up_apply, ↓hv_apply, ↓upO_some, ↓upO_none, ↓ev_tmp, ↓ev_const, ↓ev_func, ↓ev_global, init, Nat.reduceEqDiff, Nat.reduceAdd, Nat.reduceMul, Nat.reduceSub, ↓reduceIte, Int.reduceEq, Int.reduceNe, Nat.reduceLeDiff, one, Value.cells, Int.reduceLE, Int.reduceLT, Int.reduceToNat, add_mk, reduceCtorEq, List.mem_range'_1, true_and, and_true, and_false, false_and, Nat.reduceLT, Nat.reduceLeDiff, tyF, hv7]
      refine ⟨?_, hb7⟩
      unfold decM
      rw [if_pos hok]
    | false =>
      have hno := hend.2 hdn
      simp (config := {maxSteps := 1000000}) only [↓zvD, zvU, ↓up_apply, ↓hv_apply, ↓upO_some, ↓upO_none, ↓ev_tmp, ↓ev_const, ↓ev_func, ↓ev_global, init, Nat.reduceEqDiff, Nat.reduceAdd, Nat.reduceMul, Nat.reduceSub, ↓reduceIte, Int.reduceEq, Int.reduceNe, Nat.reduceLeDiff, one, Value.cells, Int.reduceLE, Int.reduceLT, Int.reduceToNat, add_mk, reduceCtorEq, List.mem_range'_1, true_and, and_true, and_false, false_and, Nat.reduceLT, Nat.reduceLeDiff, tyF, hbv, hzv]
      rw [stat_build0 w6]
      simp (config := {maxSteps := 1000000}) only [↓zvD, zvU, ↓up_apply, ↓hv_apply, ↓upO_some, ↓upO_none, ↓ev_tmp, ↓ev_const, ↓ev_func, ↓ev_global, init, Nat.reduceEqDiff, Nat.reduceAdd, Nat.reduceMul, Nat.reduceSub, ↓reduceIte, Int.reduceEq, Int.reduceNe, Nat.reduceLeDiff, one, Value.cells, Int.reduceLE, Int.reduceLT, Int.reduceToNat, add_mk, reduceCtorEq, List.mem_range'_1, true_and, and_true, and_false, false_and, Nat.reduceLT, Nat.reduceLeDiff, tyF, hbv, hzv]
      rw [st_same_eq hz5 (by rw [ints_len]; rfl) (ints_one _)]
      simp (config := {maxSteps := 1000000}) only [↓zvD, zvU, ↓up_apply, ↓hv_apply, ↓upO_some, ↓upO_none, ↓ev_tmp, ↓ev_const, ↓ev_func, ↓ev_global, init, Nat.reduceEqDiff, Nat.reduceAdd, Nat.reduceMul, Nat.reduceSub, ↓reduceIte, Int.reduceEq, Int.reduceNe, Nat.reduceLeDiff, one, Value.cells, Int.reduceLE, Int.reduceLT, Int.reduceToNat, add_mk, reduceCtorEq, List.mem_range'_1, true_and, and_true, and_false, false_and, Nat.reduceLT, Nat.reduceLeDiff, tyF, hzv]
      refine ⟨?_, hm5⟩
      unfold decM
      rw [if_neg hno]
      rfl
end Go.Proofs.Ytgbhgjghlnknjaa
