/-
  Layer 12: FrameLong and FramePrefixes.
-/
import Derived.Test.YtbknfmaefmbfdaaLaw12K
namespace Go.Proofs.Ytbknfmaefmbfdaa
open Go Go.RowKit Go.Proofs.RV
set_option linter.unusedSimpArgs false
set_option linter.unusedVariables false
set_option maxRecDepth 10000
set_option maxHeartbeats 4000000

/-- so many bytes of one kind, then noughts -/
def fillN (b : UInt8) (n k : Nat) : List UInt8 := List.replicate k b ++ noBytes (n - k)
def LongJ (b : UInt8) (n : Nat) (w : World) (q : Nat) (v17 : Value) (w' : World) : Prop :=
  ∃ k : Nat, v17 = .int .i64 k ∧ k ≤ n ∧ Blk w' q 5 ((fillN b n k).map byteV) ∧ More w w'
theorem fillN_len (b : UInt8) {n k : Nat} (h : k ≤ n) : (fillN b n k).length = n := by simp [fillN, noBytes]; omega
theorem fillN_step (b : UInt8) {n k : Nat} (h : k < n) : ((fillN b n k).map byteV).set k (byteV b) = (fillN b n (k + 1)).map byteV := by
  unfold fillN
  have e : noBytes (n - k) = 0 :: noBytes (n - (k + 1)) := by
    unfold noBytes
    rw [show n - k = (n - (k + 1)) + 1 by omega, List.replicate_succ]
  rw [e, List.map_append, List.map_append, List.set_append_right _ _ (by simp), List.map_cons]
  simp [List.replicate_succ']
theorem frame_long (w : World) (c : UInt8) (x more : Int) (hx : byteV c = .int .u8 x) (h0 : 0 ≤ more) (h1 : more < 256) :
    Ret Try.prog 14 #[.int .u8 x, .int .u8 more] w fun v w' => v = .bool true ∧ More w w' := by
  refine ret_of Try.func14 rfl (by kernel_rfl) (Nat.le_of_ble_eq_true (by kernel_rfl)) ?_
  simp (config := {maxSteps := 1000000}) only [↓zvD, zvU, ↓up_apply, ↓hv_apply, ↓upO_some, ↓upO_none, ↓ev_tmp, ↓ev_const, ↓ev_func, ↓ev_global, init, Nat.reduceEqDiff, Nat.reduceAdd, Nat.reduceMul, Nat.reduceSub, ↓reduceIte, Int.reduceEq, Int.reduceNe, Nat.reduceLeDiff, one, Value.cells, Int.reduceLE, Int.reduceLT, Int.reduceToNat, add_mk, reduceCtorEq, tyF]
  refine call_ok Try.call36 (law12_awake w) ?_
  rintro _ w1 ⟨rfl, hm1⟩
  obtain ⟨m, rfl⟩ := Int.eq_ofNat_of_zero_le h0
  have e1 : IntKind.i64.wrap (m : Int) = (m : Int) := w64 (by omega) (by omega)
  obtain ⟨n, hn⟩ : ∃ n : Nat, (n : Int) = 9217 + (m : Int) := ⟨m + 9217, by omega⟩
  have e2 : IntKind.i64.wrap (9217 + (m : Int)) = (n : Int) := by rw [← hn]; exact w64 (by omega) (by omega)
  simp (config := {maxSteps := 1000000}) only [↓zvD, zvU, ↓up_apply, ↓hv_apply, ↓upO_some, ↓upO_none, ↓ev_tmp, ↓ev_const, ↓ev_func, ↓ev_global, init, Nat.reduceEqDiff, Nat.reduceAdd, Nat.reduceMul, Nat.reduceSub, ↓reduceIte, Int.reduceEq, Int.reduceNe, Nat.reduceLeDiff, one, Value.cells, Int.reduceLE, Int.reduceLT, Int.reduceToNat, add_mk, reduceCtorEq, tyF, e1, e2]
  rw [e2]
  have hn0 : 9216 < n := by omega
  have hn1 : n < 100000 := by omega
  clear hn e1 e2 h1 h0
  refine mk_slice Try.underlying31 byteE (by omega) (by simp only [maxLen]; omega) ?_
  have hz : (madeCells (Value.int .u8 0).cells (n * 1)).toList = (fillN c n 0).map byteV := by
    rw [show (Value.int IntKind.u8 0).cells = #[.int .u8 0] from rfl, toList_madeCells_one]
    simp [fillN, noBytes, byteV]
  have hm2 := more_alloc w1 (.cells (madeCells (Value.int .u8 0).cells (n * 1)) 5)
  have hb2 := Blk.new w1 5 (madeCells (Value.int .u8 0).cells (n * 1))
  rw [hz] at hb2
  have s2 := size_alloc w1 (.cells (madeCells (Value.int .u8 0).cells (n * 1)) 5)
  generalize w1.alloc (.cells (madeCells (Value.int .u8 0).cells (n * 1)) 5) = w2 at hm2 hb2 s2 ⊢
  simp (config := {maxSteps := 1000000}) only [↓zvD, zvU, ↓up_apply, ↓hv_apply, ↓upO_some, ↓upO_none, ↓ev_tmp, ↓ev_const, ↓ev_func, ↓ev_global, init, Nat.reduceEqDiff, Nat.reduceAdd, Nat.reduceMul, Nat.reduceSub, ↓reduceIte, Int.reduceEq, Int.reduceNe, Nat.reduceLeDiff, one, Value.cells, Int.reduceLE, Int.reduceLT, Int.reduceToNat, add_mk, reduceCtorEq, tyF]
  refine loop_p [17, 6, 18, 19, 20, 21, 22, 23, 24] (fun e w' => LongJ c n w w1.heap.size (e 17) w') (fun e _ => n - (numOf (e 17)).toNat) ?_ ?_
  · exact ⟨0, by simp only [hv_apply, up_apply, upO_some, upO_none, init, List.mem_cons, true_or, or_true, if_true, if_false, ↓reduceIte, Nat.reduceEqDiff, false_or, or_false, List.not_mem_nil, List.getElem?_cons_zero, List.getElem?_cons_succ, Option.getD_some]; rfl, by omega, hb2, hm1.trans hm2⟩
  rintro v w3 ⟨k, h17, hk, hb3, hm3⟩
  simp only [hv_apply, up_apply, upO_some, upO_none, init, List.mem_cons, true_or, or_true, if_true, if_false, ↓reduceIte, Nat.reduceEqDiff, false_or, or_false, List.not_mem_nil, List.getElem?_cons_zero, List.getElem?_cons_succ, Option.getD_some] at h17
  have hs1 := hm1.size
  have ek : IntKind.i64.wrap ((k : Int) + 1) = ((k + 1 : Nat) : Int) := w64 (by omega) (by omega)
  have g0 : (0 : Int) ≤ (k : Int) := by omega
  simp (config := {maxSteps := 1000000}) only [↓zvD, zvU, ↓up_apply, ↓hv_apply, ↓upO_some, ↓upO_none, ↓ev_tmp, ↓ev_const, ↓ev_func, ↓ev_global, init, Nat.reduceEqDiff, Nat.reduceAdd, Nat.reduceMul, Nat.reduceSub, ↓reduceIte, Int.reduceEq, Int.reduceNe, Nat.reduceLeDiff, one, Value.cells, Int.reduceLE, Int.reduceLT, Int.reduceToNat, add_mk, reduceCtorEq, tyF, h17]
  refine ⟨fun h9 => ?_, fun h9 => ?_⟩
  · have hk9 : k < n := by omega
    simp (config := {maxSteps := 1000000}) only [↓zvD, zvU, ↓up_apply, ↓hv_apply, ↓upO_some, ↓upO_none, ↓ev_tmp, ↓ev_const, ↓ev_func, ↓ev_global, init, Nat.reduceEqDiff, Nat.reduceAdd, Nat.reduceMul, Nat.reduceSub, ↓reduceIte, Int.reduceEq, Int.reduceNe, Nat.reduceLeDiff, one, Value.cells, Int.reduceLE, Int.reduceLT, Int.reduceToNat, add_mk, reduceCtorEq, tyF, h17, g0, h9, Int.toNat_natCast]
    refine st_cell (i := k) (v := .int .u8 x) hb3 (by rw [List.length_map, fillN_len _ hk]; exact hk9) rfl fun w4 k1 k2 => ?_
    have k3 := fillN_step c hk9
    rw [hx] at k3
    rw [k3] at k2
    rw [ek]
    refine ⟨⟨?_, k + 1, rfl, by omega, k2, k1.below hm3 (by omega)⟩, by simp only [numOf]; omega⟩
    repeat (first | exact Same.hv _ _ _ | refine Same.up (by simp) ?_)
  · have hkn : k = n := by omega
    subst hkn
    have hl : (fillN c k k).length = k := fillN_len c (Nat.le_refl _)
    have hr := frame_parse w3 (some ⟨w1.heap.size, 0, none⟩) (fillN c k k) k hb3.cs (by omega) (by omega)
    rw [hl] at hr
    refine call_ok Try.call37 hr ?_
    rintro _ w4 ⟨rfl, hm4⟩
    have e7 : frameWhy (fillN c k k) = 7 := by unfold frameWhy; rw [if_pos (by omega)]
    have e8 : frameM (fillN c k k) = packZ := by unfold frameM; rw [if_neg (by omega)]
    rw [e7, e8]
    simp (config := {maxSteps := 1000000}) only [↓zvD, zvU, ↓up_apply, ↓hv_apply, ↓upO_some, ↓upO_none, ↓ev_tmp, ↓ev_const, ↓ev_func, ↓ev_global, init, Nat.reduceEqDiff, Nat.reduceAdd, Nat.reduceMul, Nat.reduceSub, ↓reduceIte, Int.reduceEq, Int.reduceNe, Nat.reduceLeDiff, one, Value.cells, Int.reduceLE, Int.reduceLT, Int.reduceToNat, add_mk, reduceCtorEq, tyF, zerPack]
    refine pack_var flowZ_fit rfl fun w5 hm5 hb5 hs5 => ?_
    have r5 := hb5.all_eq 46 rfl
    have bn := pack_build0 w
    have pe := pack_eq flowZ_fit flowZ_fit (a := packZ) (b := packZ) rfl rfl w
    simp (config := {maxSteps := 1000000}) only [↓zvD, zvU, ↓up_apply, ↓hv_apply, ↓upO_some, ↓upO_none, ↓ev_tmp, ↓ev_const, ↓ev_func, ↓ev_global, init, Nat.reduceEqDiff, Nat.reduceAdd, Nat.reduceMul, Nat.reduceSub, ↓reduceIte, Int.reduceEq, Int.reduceNe, Nat.reduceLeDiff, one, Value.cells, Int.reduceLE, Int.reduceLT, Int.reduceToNat, add_mk, reduceCtorEq, tyF, r5, bn, pe]
    exact hm3.trans (hm4.trans hm5)
def samK (a b : FlowM) (k : Nat) : Bool := (a.v6 == b.v6) && decide (a.src.take k = b.src.take k)
theorem samK_zero (a b : FlowM) : samK a b 0 = (a.v6 == b.v6) := by simp [samK]
theorem samK_step {a b : FlowM} (ha : a.Fit) (hb : b.Fit) {k : Nat} (hk : k < 16) : samK a b (k + 1) = (samK a b k && decide (bt a.src k = bt b.src k)) := by
  have h1 := bt_take_succ (x := a.src) (k := k) (by rw [ha.src]; exact hk)
  have h2 := bt_take_succ (x := b.src) (k := k) (by rw [hb.src]; exact hk)
  have h3 : (a.src.take (k + 1) = b.src.take (k + 1)) ↔ (a.src.take k = b.src.take k ∧ bt a.src k = bt b.src k) := by
    rw [h1, h2]
    constructor
    · intro h
      obtain ⟨g1, g2⟩ := List.append_inj h (by simp [ha.src, hb.src])
      simp only [List.cons.injEq, and_true] at g2
      have := congrArg (fun z : UInt8 => (z.toNat : Int)) g2
      simp only [u8_toNat (bt_nonneg _ _) (bt_lt _ _)] at this
      exact ⟨g1, this⟩
    · rintro ⟨g1, g2⟩
      rw [g1, g2]
  unfold samK
  cases (a.v6 == b.v6) <;> simp [h3]
theorem samK_all {a b : FlowM} (ha : a.Fit) (hb : b.Fit) : (prefM a = prefM b) ↔ samK a b (if a.v6 = true then 7 else 3) = true := by
  have ls := ha.src
  have lt := hb.src
  unfold prefM samK
  simp only [PrefM.mk.injEq, Bool.and_eq_true, beq_iff_eq, decide_eq_true_eq]
  cases a.v6 <;> cases b.v6 <;> simp
def PreJ (a b : FlowM) (n : Nat) (w : World) (q : Nat) (v6 v16 : Value) (w' : World) : Prop :=
  ∃ k : Nat, v16 = .int .i64 k ∧ v6 = .bool (samK a b k) ∧ k ≤ n ∧ Blk w' w.heap.size 71 a.cells ∧ Blk w' q 71 b.cells ∧ More w w'
theorem frame_prefixes (w : World) (a b : FlowM) (fa : a.Fit) (fb : b.Fit) :
    Ret Try.prog 15 #[.agg a.cells.toArray, .agg b.cells.toArray] w fun v w' => v = .bool true ∧ More w w' := by
  refine ret_of Try.func15 rfl (by kernel_rfl) (Nat.le_of_ble_eq_true (by kernel_rfl)) ?_
  have hm1 := more_alloc w (.cells a.cells.toArray 71)
  have ha1 := Blk.new w 71 a.cells.toArray
  have s1 := size_alloc w (.cells a.cells.toArray 71)
  simp (config := {maxSteps := 1000000}) only [↓zvD, zvU, ↓up_apply, ↓hv_apply, ↓upO_some, ↓upO_none, ↓ev_tmp, ↓ev_const, ↓ev_func, ↓ev_global, init, Nat.reduceEqDiff, Nat.reduceAdd, Nat.reduceMul, Nat.reduceSub, ↓reduceIte, Int.reduceEq, Int.reduceNe, Nat.reduceLeDiff, one, Value.cells, Int.reduceLE, Int.reduceLT, Int.reduceToNat, add_mk, reduceCtorEq, tyF]
  have sz := size_alloc w (.cells a.cells.toArray 71)
  generalize hw1 : w.alloc (.cells a.cells.toArray 71) = w1 at hm1 ha1 s1 ⊢
  have hm2 := more_alloc w1 (.cells b.cells.toArray 71)
  have hb2 := Blk.new w1 71 b.cells.toArray
  have s2 := size_alloc w1 (.cells b.cells.toArray 71)
  generalize w1.alloc (.cells b.cells.toArray 71) = w2 at hm2 hb2 s2 ⊢
  have ha2 := ha1.more hm2
  replace hm2 := hm1.trans hm2
  simp only [List.toList_toArray] at ha2 hb2
  rw [s1] at hb2
  simp (config := {maxSteps := 1000000}) only [↓zvD, zvU, ↓up_apply, ↓hv_apply, ↓upO_some, ↓upO_none, ↓ev_tmp, ↓ev_const, ↓ev_func, ↓ev_global, init, Nat.reduceEqDiff, Nat.reduceAdd, Nat.reduceMul, Nat.reduceSub, ↓reduceIte, Int.reduceEq, Int.reduceNe, Nat.reduceLeDiff, one, Value.cells, Int.reduceLE, Int.reduceLT, Int.reduceToNat, add_mk, reduceCtorEq, tyF, ha2.cell, hb2.cell, FlowM.c0, hw1, sz, s1]
  refine ⟨fun hv => ?_, fun hv => ?_⟩
  · simp (config := {maxSteps := 1000000}) only [↓zvD, zvU, ↓up_apply, ↓hv_apply, ↓upO_some, ↓upO_none, ↓ev_tmp, ↓ev_const, ↓ev_func, ↓ev_global, init, Nat.reduceEqDiff, Nat.reduceAdd, Nat.reduceMul, Nat.reduceSub, ↓reduceIte, Int.reduceEq, Int.reduceNe, Nat.reduceLeDiff, one, Value.cells, Int.reduceLE, Int.reduceLT, Int.reduceToNat, add_mk, reduceCtorEq, tyF, ha2.cell, hb2.cell, FlowM.c0, hw1, sz, s1]
    refine loop_p [6, 7, 16, 17, 18, 19, 20, 21, 22, 23, 24, 25, 26, 27, 28, 29, 30, 31] (fun e w' => PreJ a b 7 w (w.heap.size + 1) (e 6) (e 16) w') (fun e _ => 7 - (numOf (e 16)).toNat) ?_ ?_
    · exact ⟨0, by simp only [hv_apply, up_apply, upO_some, upO_none, init, List.mem_cons, true_or, or_true, if_true, if_false, ↓reduceIte, Nat.reduceEqDiff, false_or, or_false, List.not_mem_nil, List.getElem?_cons_zero, List.getElem?_cons_succ, Option.getD_some]; rfl, by simp only [hv_apply, up_apply, upO_some, upO_none, init, List.mem_cons, true_or, or_true, if_true, if_false, ↓reduceIte, Nat.reduceEqDiff, false_or, or_false, List.not_mem_nil, List.getElem?_cons_zero, List.getElem?_cons_succ, Option.getD_some]; rw [samK_zero], by omega, ha2, hb2, hm2⟩
    rintro v w3 ⟨k, h16, h6, hk, ha3, hb3, hm3⟩
    simp only [hv_apply, up_apply, upO_some, upO_none, init, List.mem_cons, true_or, or_true, if_true, if_false, ↓reduceIte, Nat.reduceEqDiff, false_or, or_false, List.not_mem_nil, List.getElem?_cons_zero, List.getElem?_cons_succ, Option.getD_some] at h16 h6
    have ek : IntKind.i64.wrap ((k : Int) + 1) = ((k + 1 : Nat) : Int) := w64 (by omega) (by omega)
    have g0 : (0 : Int) ≤ (k : Int) := by omega
    simp (config := {maxSteps := 1000000}) only [↓zvD, zvU, ↓up_apply, ↓hv_apply, ↓upO_some, ↓upO_none, ↓ev_tmp, ↓ev_const, ↓ev_func, ↓ev_global, init, Nat.reduceEqDiff, Nat.reduceAdd, Nat.reduceMul, Nat.reduceSub, ↓reduceIte, Int.reduceEq, Int.reduceNe, Nat.reduceLeDiff, one, Value.cells, Int.reduceLE, Int.reduceLT, Int.reduceToNat, add_mk, reduceCtorEq, tyF, h16, h6]
    refine ⟨fun h9 => ?_, fun h9 => ?_⟩
    · have hk9 : k < 7 := by omega
      have g1 : (k : Int) < 16 := by omega
      have ca := ha3.cell
      have cb := hb3.cell
      have ca2 := FlowM.srcAt fa (k := k) (by omega)
      have cb2 := FlowM.srcAt fb (k := k) (by omega)
      have hst := samK_step fa fb (k := k) (by omega)
      refine draw_calm mixed (by kernel_rfl) ?_
      cases hs : samK a b k with
      | true =>
        rw [hs, Bool.true_and] at hst
        simp (config := {maxSteps := 1000000}) only [↓zvD, zvU, ↓zqD, ↓up_apply, ↓hv_apply, ↓upO_some, ↓upO_none, ↓ev_tmp, ↓ev_const, ↓ev_func, ↓ev_global, init, Nat.reduceEqDiff, Nat.reduceAdd, Nat.reduceMul, Nat.reduceSub, ↓reduceIte, Int.reduceEq, Int.reduceNe, Nat.reduceLeDiff, one, Value.cells, Int.reduceLE, Int.reduceLT, Int.reduceToNat, add_mk, reduceCtorEq, tyF, h16, h6, hs, g0, g1, ca, cb, ca2, cb2, Int.toNat_natCast]
        intro w4 hm4
        rw [ek]
        refine ⟨⟨?_, k + 1, rfl, by rw [hst], by omega, ha3.more hm4, hb3.more hm4, hm3.trans hm4⟩, by simp only [numOf]; omega⟩
        repeat (first | exact Same.hv _ _ _ | refine Same.up (by simp) ?_)
      | false =>
        rw [hs, Bool.false_and] at hst
        simp (config := {maxSteps := 1000000}) only [↓zvD, zvU, ↓zqD, ↓up_apply, ↓hv_apply, ↓upO_some, ↓upO_none, ↓ev_tmp, ↓ev_const, ↓ev_func, ↓ev_global, init, Nat.reduceEqDiff, Nat.reduceAdd, Nat.reduceMul, Nat.reduceSub, ↓reduceIte, Int.reduceEq, Int.reduceNe, Nat.reduceLeDiff, one, Value.cells, Int.reduceLE, Int.reduceLT, Int.reduceToNat, add_mk, reduceCtorEq, tyF, h16, h6, hs]
        intro w4 hm4
        rw [ek]
        refine ⟨⟨?_, k + 1, rfl, by rw [hst], by omega, ha3.more hm4, hb3.more hm4, hm3.trans hm4⟩, by simp only [numOf]; omega⟩
        repeat (first | exact Same.hv _ _ _ | refine Same.up (by simp) ?_)
    obtain rfl : k = 7 := by omega
    simp (config := {maxSteps := 1000000}) only [↓zvD, zvU, ↓up_apply, ↓hv_apply, ↓upO_some, ↓upO_none, ↓ev_tmp, ↓ev_const, ↓ev_func, ↓ev_global, init, Nat.reduceEqDiff, Nat.reduceAdd, Nat.reduceMul, Nat.reduceSub, ↓reduceIte, Int.reduceEq, Int.reduceNe, Nat.reduceLeDiff, one, Value.cells, Int.reduceLE, Int.reduceLT, Int.reduceToNat, add_mk, reduceCtorEq, tyF, h16, h6]
    have ra := ha3.all_eq 36 (FlowM.cells_len fa)
    have rb := hb3.all_eq 36 (FlowM.cells_len fb)
    have hall := samK_all fa fb
    simp only [hv, if_true, if_false, Bool.false_eq_true] at hall
    refine draw_seen 8 [[], [0], [0, 1], [0, 1, 2], [0, 1], [0, 1, 2, 3, 4], [0, 1, 2, 3, 4, 5], [0, 1], [0, 1, 2, 3, 4, 5, 6, 7], [0, 1, 2, 3, 4, 5, 6, 7, 8], [0, 1, 2, 3, 4, 5, 6, 7, 8, 9]] (RV.look [(0, IsV (.bool true)), (3, IsV (.agg (prefM a).cells.toArray)), (5, IsV (.agg (prefM b).cells.toArray))]) mixed (by kernel_rfl) (by kernel_rfl) (look_keeps _ (by
      intro z hz
      simp only [List.mem_cons, List.not_mem_nil, or_false] at hz
      rcases hz with rfl | rfl | rfl
      · exact fun v a b hab => IsV.keeps hab
      · exact fun v a b hab => IsV.keeps hab
      · exact fun v a b hab => IsV.keeps hab)) ?_
    simp (config := {maxSteps := 1000000}) only [↓zvD, zvU, ↓zqD, ↓up_apply, ↓hv_apply, ↓upO_some, ↓upO_none, ↓ev_tmp, ↓ev_const, ↓ev_func, ↓ev_global, init, Nat.reduceEqDiff, Nat.reduceAdd, Nat.reduceMul, Nat.reduceSub, ↓reduceIte, Int.reduceEq, Int.reduceNe, Nat.reduceLeDiff, one, Value.cells, Int.reduceLE, Int.reduceLT, Int.reduceToNat, add_mk, reduceCtorEq, tyF, h6]
    refine ⟨fun w4 hm4 => call_ok Try.call36 (law12_awake w4) ?_, ?_⟩
    · rintro _ w5 ⟨rfl, hm5⟩
      simp (config := {maxSteps := 1000000}) only [↓zvD, zvU, ↓zqD, ↓up_apply, ↓hv_apply, ↓upO_some, ↓upO_none, ↓ev_tmp, ↓ev_const, ↓ev_func, ↓ev_global, init, Nat.reduceEqDiff, Nat.reduceAdd, Nat.reduceMul, Nat.reduceSub, ↓reduceIte, Int.reduceEq, Int.reduceNe, Nat.reduceLeDiff, one, Value.cells, Int.reduceLE, Int.reduceLT, Int.reduceToNat, add_mk, reduceCtorEq]
      exact ⟨hm5, rfl⟩
    rintro _ ⟨w4, hm4, rfl⟩
    simp (config := {maxSteps := 1000000}) only [↓zvD, zvU, ↓zqD, ↓up_apply, ↓hv_apply, ↓upO_some, ↓upO_none, ↓ev_tmp, ↓ev_const, ↓ev_func, ↓ev_global, init, Nat.reduceEqDiff, Nat.reduceAdd, Nat.reduceMul, Nat.reduceSub, ↓reduceIte, Int.reduceEq, Int.reduceNe, Nat.reduceLeDiff, one, Value.cells, Int.reduceLE, Int.reduceLT, Int.reduceToNat, add_mk, reduceCtorEq, tyF, h6, ra, rb]
    refine ⟨fun w5 hm5 _ => call_ok Try.call41 (frame_prefix w5 a fa) ?_, ?_⟩
    · rintro _ w6 ⟨rfl, hm6⟩
      simp (config := {maxSteps := 1000000}) only [↓zvD, zvU, ↓zqD, ↓up_apply, ↓hv_apply, ↓upO_some, ↓upO_none, ↓ev_tmp, ↓ev_const, ↓ev_func, ↓ev_global, init, Nat.reduceEqDiff, Nat.reduceAdd, Nat.reduceMul, Nat.reduceSub, ↓reduceIte, Int.reduceEq, Int.reduceNe, Nat.reduceLeDiff, one, Value.cells, Int.reduceLE, Int.reduceLT, Int.reduceToNat, add_mk, reduceCtorEq]
      exact ⟨hm6, rfl⟩
    rintro _ ⟨w5, hm5, _, rfl⟩
    simp (config := {maxSteps := 1000000}) only [↓zvD, zvU, ↓zqD, ↓up_apply, ↓hv_apply, ↓upO_some, ↓upO_none, ↓ev_tmp, ↓ev_const, ↓ev_func, ↓ev_global, init, Nat.reduceEqDiff, Nat.reduceAdd, Nat.reduceMul, Nat.reduceSub, ↓reduceIte, Int.reduceEq, Int.reduceNe, Nat.reduceLeDiff, one, Value.cells, Int.reduceLE, Int.reduceLT, Int.reduceToNat, add_mk, reduceCtorEq, tyF, h6, ra, rb]
    refine ⟨fun w6 hm6 _ => call_ok Try.call41 (frame_prefix w6 b fb) ?_, ?_⟩
    · rintro _ w7 ⟨rfl, hm7⟩
      simp (config := {maxSteps := 1000000}) only [↓zvD, zvU, ↓zqD, ↓up_apply, ↓hv_apply, ↓upO_some, ↓upO_none, ↓ev_tmp, ↓ev_const, ↓ev_func, ↓ev_global, init, Nat.reduceEqDiff, Nat.reduceAdd, Nat.reduceMul, Nat.reduceSub, ↓reduceIte, Int.reduceEq, Int.reduceNe, Nat.reduceLeDiff, one, Value.cells, Int.reduceLE, Int.reduceLT, Int.reduceToNat, add_mk, reduceCtorEq]
      exact ⟨hm7, rfl⟩
    rintro _ ⟨w6, hm6, _, rfl⟩
    have pe := pref_eq (prefM_len fa) (prefM_len fb) w
    simp only [hall, Bool.decide_eq_true] at pe
    simp (config := {maxSteps := 1000000}) only [↓zvD, zvU, ↓zqD, ↓up_apply, ↓hv_apply, ↓upO_some, ↓upO_none, ↓ev_tmp, ↓ev_const, ↓ev_func, ↓ev_global, init, Nat.reduceEqDiff, Nat.reduceAdd, Nat.reduceMul, Nat.reduceSub, ↓reduceIte, Int.reduceEq, Int.reduceNe, Nat.reduceLeDiff, one, Value.cells, Int.reduceLE, Int.reduceLT, Int.reduceToNat, add_mk, reduceCtorEq, tyF, h6, pe, beq_self_eq_true]
    exact fun w7 hm7 _ => hm3.trans hm7
  · simp (config := {maxSteps := 1000000}) only [↓zvD, zvU, ↓up_apply, ↓hv_apply, ↓upO_some, ↓upO_none, ↓ev_tmp, ↓ev_const, ↓ev_func, ↓ev_global, init, Nat.reduceEqDiff, Nat.reduceAdd, Nat.reduceMul, Nat.reduceSub, ↓reduceIte, Int.reduceEq, Int.reduceNe, Nat.reduceLeDiff, one, Value.cells, Int.reduceLE, Int.reduceLT, Int.reduceToNat, add_mk, reduceCtorEq, tyF, ha2.cell, hb2.cell, FlowM.c0, hw1, sz, s1]
    refine loop_p [6, 7, 16, 17, 18, 19, 20, 21, 22, 23, 24, 25, 26, 27, 28, 29, 30, 31] (fun e w' => PreJ a b 3 w (w.heap.size + 1) (e 6) (e 16) w') (fun e _ => 3 - (numOf (e 16)).toNat) ?_ ?_
    · exact ⟨0, by simp only [hv_apply, up_apply, upO_some, upO_none, init, List.mem_cons, true_or, or_true, if_true, if_false, ↓reduceIte, Nat.reduceEqDiff, false_or, or_false, List.not_mem_nil, List.getElem?_cons_zero, List.getElem?_cons_succ, Option.getD_some]; rfl, by simp only [hv_apply, up_apply, upO_some, upO_none, init, List.mem_cons, true_or, or_true, if_true, if_false, ↓reduceIte, Nat.reduceEqDiff, false_or, or_false, List.not_mem_nil, List.getElem?_cons_zero, List.getElem?_cons_succ, Option.getD_some]; rw [samK_zero], by omega, ha2, hb2, hm2⟩
    rintro v w3 ⟨k, h16, h6, hk, ha3, hb3, hm3⟩
    simp only [hv_apply, up_apply, upO_some, upO_none, init, List.mem_cons, true_or, or_true, if_true, if_false, ↓reduceIte, Nat.reduceEqDiff, false_or, or_false, List.not_mem_nil, List.getElem?_cons_zero, List.getElem?_cons_succ, Option.getD_some] at h16 h6
    have ek : IntKind.i64.wrap ((k : Int) + 1) = ((k + 1 : Nat) : Int) := w64 (by omega) (by omega)
    have g0 : (0 : Int) ≤ (k : Int) := by omega
    simp (config := {maxSteps := 1000000}) only [↓zvD, zvU, ↓up_apply, ↓hv_apply, ↓upO_some, ↓upO_none, ↓ev_tmp, ↓ev_const, ↓ev_func, ↓ev_global, init, Nat.reduceEqDiff, Nat.reduceAdd, Nat.reduceMul, Nat.reduceSub, ↓reduceIte, Int.reduceEq, Int.reduceNe, Nat.reduceLeDiff, one, Value.cells, Int.reduceLE, Int.reduceLT, Int.reduceToNat, add_mk, reduceCtorEq, tyF, h16, h6]
    refine ⟨fun h9 => ?_, fun h9 => ?_⟩
    · have hk9 : k < 3 := by omega
      have g1 : (k : Int) < 16 := by omega
      have ca := ha3.cell
      have cb := hb3.cell
      have ca2 := FlowM.srcAt fa (k := k) (by omega)
      have cb2 := FlowM.srcAt fb (k := k) (by omega)
      have hst := samK_step fa fb (k := k) (by omega)
      refine draw_calm mixed (by kernel_rfl) ?_
      cases hs : samK a b k with
      | true =>
        rw [hs, Bool.true_and] at hst
        simp (config := {maxSteps := 1000000}) only [↓zvD, zvU, ↓zqD, ↓up_apply, ↓hv_apply, ↓upO_some, ↓upO_none, ↓ev_tmp, ↓ev_const, ↓ev_func, ↓ev_global, init, Nat.reduceEqDiff, Nat.reduceAdd, Nat.reduceMul, Nat.reduceSub, ↓reduceIte, Int.reduceEq, Int.reduceNe, Nat.reduceLeDiff, one, Value.cells, Int.reduceLE, Int.reduceLT, Int.reduceToNat, add_mk, reduceCtorEq, tyF, h16, h6, hs, g0, g1, ca, cb, ca2, cb2, Int.toNat_natCast]
        intro w4 hm4
        rw [ek]
        refine ⟨⟨?_, k + 1, rfl, by rw [hst], by omega, ha3.more hm4, hb3.more hm4, hm3.trans hm4⟩, by simp only [numOf]; omega⟩
        repeat (first | exact Same.hv _ _ _ | refine Same.up (by simp) ?_)
      | false =>
        rw [hs, Bool.false_and] at hst
        simp (config := {maxSteps := 1000000}) only [↓zvD, zvU, ↓zqD, ↓up_apply, ↓hv_apply, ↓upO_some, ↓upO_none, ↓ev_tmp, ↓ev_const, ↓ev_func, ↓ev_global, init, Nat.reduceEqDiff, Nat.reduceAdd, Nat.reduceMul, Nat.reduceSub, ↓reduceIte, Int.reduceEq, Int.reduceNe, Nat.reduceLeDiff, one, Value.cells, Int.reduceLE, Int.reduceLT, Int.reduceToNat, add_mk, reduceCtorEq, tyF, h16, h6, hs]
        intro w4 hm4
        rw [ek]
        refine ⟨⟨?_, k + 1, rfl, by rw [hst], by omega, ha3.more hm4, hb3.more hm4, hm3.trans hm4⟩, by simp only [numOf]; omega⟩
        repeat (first | exact Same.hv _ _ _ | refine Same.up (by simp) ?_)
    obtain rfl : k = 3 := by omega
    simp (config := {maxSteps := 1000000}) only [↓zvD, zvU, ↓up_apply, ↓hv_apply, ↓upO_some, ↓upO_none, ↓ev_tmp, ↓ev_const, ↓ev_func, ↓ev_global, init, Nat.reduceEqDiff, Nat.reduceAdd, Nat.reduceMul, Nat.reduceSub, ↓reduceIte, Int.reduceEq, Int.reduceNe, Nat.reduceLeDiff, one, Value.cells, Int.reduceLE, Int.reduceLT, Int.reduceToNat, add_mk, reduceCtorEq, tyF, h16, h6]
    have ra := ha3.all_eq 36 (FlowM.cells_len fa)
    have rb := hb3.all_eq 36 (FlowM.cells_len fb)
    have hall := samK_all fa fb
    simp only [hv, if_true, if_false, Bool.false_eq_true] at hall
    refine draw_seen 8 [[], [0], [0, 1], [0, 1, 2], [0, 1], [0, 1, 2, 3, 4], [0, 1, 2, 3, 4, 5], [0, 1], [0, 1, 2, 3, 4, 5, 6, 7], [0, 1, 2, 3, 4, 5, 6, 7, 8], [0, 1, 2, 3, 4, 5, 6, 7, 8, 9]] (RV.look [(0, IsV (.bool true)), (3, IsV (.agg (prefM a).cells.toArray)), (5, IsV (.agg (prefM b).cells.toArray))]) mixed (by kernel_rfl) (by kernel_rfl) (look_keeps _ (by
      intro z hz
      simp only [List.mem_cons, List.not_mem_nil, or_false] at hz
      rcases hz with rfl | rfl | rfl
      · exact fun v a b hab => IsV.keeps hab
      · exact fun v a b hab => IsV.keeps hab
      · exact fun v a b hab => IsV.keeps hab)) ?_
    simp (config := {maxSteps := 1000000}) only [↓zvD, zvU, ↓zqD, ↓up_apply, ↓hv_apply, ↓upO_some, ↓upO_none, ↓ev_tmp, ↓ev_const, ↓ev_func, ↓ev_global, init, Nat.reduceEqDiff, Nat.reduceAdd, Nat.reduceMul, Nat.reduceSub, ↓reduceIte, Int.reduceEq, Int.reduceNe, Nat.reduceLeDiff, one, Value.cells, Int.reduceLE, Int.reduceLT, Int.reduceToNat, add_mk, reduceCtorEq, tyF, h6]
    refine ⟨fun w4 hm4 => call_ok Try.call36 (law12_awake w4) ?_, ?_⟩
    · rintro _ w5 ⟨rfl, hm5⟩
      simp (config := {maxSteps := 1000000}) only [↓zvD, zvU, ↓zqD, ↓up_apply, ↓hv_apply, ↓upO_some, ↓upO_none, ↓ev_tmp, ↓ev_const, ↓ev_func, ↓ev_global, init, Nat.reduceEqDiff, Nat.reduceAdd, Nat.reduceMul, Nat.reduceSub, ↓reduceIte, Int.reduceEq, Int.reduceNe, Nat.reduceLeDiff, one, Value.cells, Int.reduceLE, Int.reduceLT, Int.reduceToNat, add_mk, reduceCtorEq]
      exact ⟨hm5, rfl⟩
    rintro _ ⟨w4, hm4, rfl⟩
    simp (config := {maxSteps := 1000000}) only [↓zvD, zvU, ↓zqD, ↓up_apply, ↓hv_apply, ↓upO_some, ↓upO_none, ↓ev_tmp, ↓ev_const, ↓ev_func, ↓ev_global, init, Nat.reduceEqDiff, Nat.reduceAdd, Nat.reduceMul, Nat.reduceSub, ↓reduceIte, Int.reduceEq, Int.reduceNe, Nat.reduceLeDiff, one, Value.cells, Int.reduceLE, Int.reduceLT, Int.reduceToNat, add_mk, reduceCtorEq, tyF, h6, ra, rb]
    refine ⟨fun w5 hm5 _ => call_ok Try.call41 (frame_prefix w5 a fa) ?_, ?_⟩
    · rintro _ w6 ⟨rfl, hm6⟩
      simp (config := {maxSteps := 1000000}) only [↓zvD, zvU, ↓zqD, ↓up_apply, ↓hv_apply, ↓upO_some, ↓upO_none, ↓ev_tmp, ↓ev_const, ↓ev_func, ↓ev_global, init, Nat.reduceEqDiff, Nat.reduceAdd, Nat.reduceMul, Nat.reduceSub, ↓reduceIte, Int.reduceEq, Int.reduceNe, Nat.reduceLeDiff, one, Value.cells, Int.reduceLE, Int.reduceLT, Int.reduceToNat, add_mk, reduceCtorEq]
      exact ⟨hm6, rfl⟩
    rintro _ ⟨w5, hm5, _, rfl⟩
    simp (config := {maxSteps := 1000000}) only [↓zvD, zvU, ↓zqD, ↓up_apply, ↓hv_apply, ↓upO_some, ↓upO_none, ↓ev_tmp, ↓ev_const, ↓ev_func, ↓ev_global, init, Nat.reduceEqDiff, Nat.reduceAdd, Nat.reduceMul, Nat.reduceSub, ↓reduceIte, Int.reduceEq, Int.reduceNe, Nat.reduceLeDiff, one, Value.cells, Int.reduceLE, Int.reduceLT, Int.reduceToNat, add_mk, reduceCtorEq, tyF, h6, ra, rb]
    refine ⟨fun w6 hm6 _ => call_ok Try.call41 (frame_prefix w6 b fb) ?_, ?_⟩
    · rintro _ w7 ⟨rfl, hm7⟩
      simp (config := {maxSteps := 1000000}) only [↓zvD, zvU, ↓zqD, ↓up_apply, ↓hv_apply, ↓upO_some, ↓upO_none, ↓ev_tmp, ↓ev_const, ↓ev_func, ↓ev_global, init, Nat.reduceEqDiff, Nat.reduceAdd, Nat.reduceMul, Nat.reduceSub, ↓reduceIte, Int.reduceEq, Int.reduceNe, Nat.reduceLeDiff, one, Value.cells, Int.reduceLE, Int.reduceLT, Int.reduceToNat, add_mk, reduceCtorEq]
      exact ⟨hm7, rfl⟩
    rintro _ ⟨w6, hm6, _, rfl⟩
    have pe := pref_eq (prefM_len fa) (prefM_len fb) w
    simp only [hall, Bool.decide_eq_true] at pe
    simp (config := {maxSteps := 1000000}) only [↓zvD, zvU, ↓zqD, ↓up_apply, ↓hv_apply, ↓upO_some, ↓upO_none, ↓ev_tmp, ↓ev_const, ↓ev_func, ↓ev_global, init, Nat.reduceEqDiff, Nat.reduceAdd, Nat.reduceMul, Nat.reduceSub, ↓reduceIte, Int.reduceEq, Int.reduceNe, Nat.reduceLeDiff, one, Value.cells, Int.reduceLE, Int.reduceLT, Int.reduceToNat, add_mk, reduceCtorEq, tyF, h6, pe, beq_self_eq_true]
    exact fun w7 hm7 _ => hm3.trans hm7
end Go.Proofs.Ytbknfmaefmbfdaa
