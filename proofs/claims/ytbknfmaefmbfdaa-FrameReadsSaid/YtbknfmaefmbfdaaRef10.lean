/-
  Layer 10: the reference's reading of a packet.
-/
import Derived.Test.YtbknfmaefmbfdaaInet6P
import Derived.Test.YtbknfmaefmbfdaaRefC
import Derived.Test.YtbknfmaefmbfdaaMore12
namespace Go.Proofs.Ytbknfmaefmbfdaa
open Go Go.RowKit Go.Proofs.RV
set_option linter.unusedSimpArgs false
set_option linter.unusedVariables false
set_option maxRecDepth 10000
set_option maxHeartbeats 4000000

/-- the head whose addresses are copied so far -/
def part6 (l : List UInt8) (k : Nat) : List Value :=
  .int .u8 (bt l 6) :: (((l.drop 8).take k ++ noBytes (16 - k)).map byteV ++ (((l.drop 24).take k ++ noBytes (16 - k)).map byteV ++ [.slice none 0 0, .bool true]))
theorem part6_len (l : List UInt8) (k : Nat) (hk : k ≤ 16) (hl : 40 ≤ l.length) : (part6 l k).length = 35 := by
  simp [part6, noBytes]; omega
theorem put_step {x : List UInt8} {k : Nat} (hk : k < 16) (hx : 16 ≤ x.length) : ((x.take k ++ noBytes (16 - k)).map byteV).set k (.int .u8 (bt x k)) = (x.take (k + 1) ++ noBytes (16 - (k + 1))).map byteV := by
  have h1 : (x.take k).length = k := by simp; omega
  have e : noBytes (16 - k) = 0 :: noBytes (16 - (k + 1)) := by
    unfold noBytes
    rw [show 16 - k = (16 - (k + 1)) + 1 by omega, List.replicate_succ]
  have e2 : x.take (k + 1) = x.take k ++ [x[k]] := by rw [List.take_succ_eq_append_getElem (by omega)]
  have e3 : byteV x[k] = .int .u8 (bt x k) := by simp [byteV, bt, show k < x.length by omega]
  have ha : ((x.take k).map byteV).length = k := by rw [List.length_map, h1]
  rw [e, e2]
  simp only [List.map_append, List.map_cons, List.map_nil, e3]
  rw [List.set_append_right _ _ (by omega), ha, Nat.sub_self, List.set_cons_zero, List.append_assoc, List.cons_append, List.nil_append]
theorem part6_step (l : List UInt8) (k : Nat) (hk : k < 16) (hl : 40 ≤ l.length) : ((part6 l k).set (1 + k) (.int .u8 (bt l (8 + k)))).set (17 + k) (.int .u8 (bt l (24 + k))) = part6 l (k + 1) := by
  rw [(bt_drop l 8 k).symm, (bt_drop l 24 k).symm]
  have h1 : 16 ≤ (l.drop 8).length := by simp; omega
  have h2 : 16 ≤ (l.drop 24).length := by simp; omega
  unfold part6
  generalize l.drop 8 = s at h1 ⊢
  generalize l.drop 24 = d at h2 ⊢
  have l1 : ((s.take k ++ noBytes (16 - k)).map byteV).length = 16 := by simp [noBytes]; omega
  have l1' : ((s.take (k + 1) ++ noBytes (16 - (k + 1))).map byteV).length = 16 := by simp [noBytes]; omega
  have l2 : ((d.take k ++ noBytes (16 - k)).map byteV).length = 16 := by simp [noBytes]; omega
  rw [Nat.add_comm 1 k, List.set_cons_succ, List.set_append_left _ _ (by rw [l1]; exact hk), put_step hk h1, show 17 + k = (16 + k) + 1 by omega, List.set_cons_succ, List.set_append_right _ _ (by rw [l1']; omega), l1', show 16 + k - 16 = k by omega, List.set_append_left _ _ (by rw [l2]; exact hk), put_step hk h2]
def Copy6J (l : List UInt8) (w : World) (p : Nat) (v42 : Value) (w' : World) : Prop :=
  ∃ k : Nat, v42 = .int .i64 k ∧ k ≤ 16 ∧ Blk w' p 121 (part6 l k) ∧ Blk w' (w.heap.size + 1) 121 netZ ∧ Blk w' w.heap.size 121 netZ ∧ More w w'
def Head6J (l : List UInt8) (m : Nat) (sv dv : List UInt8) (w : World) (p : Nat) (v8 v9 : Value) (w' : World) : Prop :=
  ∃ (n k : Nat) (pr : Int) (later : Bool), v8 = .int .i64 k ∧ v9 = .int .i64 n ∧ n ≤ 8 ∧ 40 ≤ k ∧ k ≤ m ∧ go6 (8 - n) pr ((l.take m).drop k) later = walk6 l ∧ 0 ≤ pr ∧ pr < 256 ∧
    Blk w' p 121 ((NetM.mk pr sv dv [] (!later)).cells none 0) ∧ Blk w' (w.heap.size + 1) 121 netZ ∧ Blk w' w.heap.size 121 netZ ∧ More w w'
def Ref6R (A : Option Addr) (l : List UInt8) (w : World) (v : Value) (w' : World) : Prop :=
  ∃ A' c', v = .tuple #[.agg ((parse6 l).cells A' c').toArray, .int .i64 (why6 l)] ∧ (Bs w' A' (parse6 l).body ∧ SameBlk A' A) ∧ More w w'
theorem ref6_parse (w : World) (A : Option Addr) (l : List UInt8) (c : Nat) (hA : Bs w A l) (hc : l.length ≤ c) (hl : l.length ≤ 1000000) :
    Ret Try.prog 66 #[.slice A l.length c] w (Ref6R A l w) := by
  have bad : ∀ r, why6 l = r → r ≠ 0 → ∀ w', More w w' → Ref6R A l w (.tuple #[.agg netZ.toArray, .int .i64 r]) w' := by
    intro r hr hr0 w' hm
    have : parse6 l = netNone := by unfold parse6; rw [if_neg (by rw [hr]; exact hr0)]
    unfold Ref6R
    rw [this, hr]
    exact ⟨none, 0, rfl, ⟨Cs.nil _ _, fun z hz => by cases hz⟩, hm⟩
  refine ret_of Try.func66 rfl (by kernel_rfl) (Nat.le_of_ble_eq_true (by kernel_rfl)) ?_
  have hm1 := more_alloc w (.cells netZ.toArray 121)
  have hb1 := Blk.new w 121 netZ.toArray
  have s1 := size_alloc w (.cells netZ.toArray 121)
  have bn := build0_eq (P := Try.prog) Try.underlying121 zerNetR netFields w
  simp (config := {maxSteps := 1000000}) only [↓zvD, zvU, ↓up_apply, ↓hv_apply, ↓upO_some, ↓upO_none, ↓ev_tmp, ↓ev_const, ↓ev_func, ↓ev_global, init, Nat.reduceEqDiff, Nat.reduceAdd, Nat.reduceMul, Nat.reduceSub, ↓reduceIte, Int.reduceEq, Int.reduceNe, Nat.reduceLeDiff, one, Value.cells, Int.reduceLE, Int.reduceLT, Int.reduceToNat, add_mk, reduceCtorEq, tyF, zerNetR, bn]
  generalize w.alloc (.cells netZ.toArray 121) = w1 at hm1 hb1 s1 ⊢
  refine net_var netNone_fit fun w2 hm2 hb2 hs2 => ?_
  rw [s1] at hb2
  have hm12 := hm1.trans hm2
  have hb12 := hb1.more hm2
  rw [List.toList_toArray] at hb12
  have sz := fun (w' : World) (hm : Blk w' w.heap.size 121 netZ) => st_same_eq hm (n := 35) rfl (by simpa using netZ_one)
  have rd := fun (w' : World) (q : Nat) (hm : Blk w' q 121 netZ) => hm.all_eq 35 rfl
  have sz2 := sz w2 hb12
  have rd2 := rd w2 _ hb12
  have re2 := rd w2 _ hb2
  simp (config := {maxSteps := 1000000}) only [↓zvD, zvU, ↓up_apply, ↓hv_apply, ↓upO_some, ↓upO_none, ↓ev_tmp, ↓ev_const, ↓ev_func, ↓ev_global, init, Nat.reduceEqDiff, Nat.reduceAdd, Nat.reduceMul, Nat.reduceSub, ↓reduceIte, Int.reduceEq, Int.reduceNe, Nat.reduceLeDiff, one, Value.cells, Int.reduceLE, Int.reduceLT, Int.reduceToNat, add_mk, reduceCtorEq, tyF, zerNetR, bn, s1, sz2, rd2, re2]
  refine ⟨fun h1 => ?_, fun h1 => ?_⟩
  · exact bad 1 (by unfold why6 walk6; rw [if_pos (by omega)]) (by omega) _ hm12
  have hA2 := hA.more hm12
  obtain ⟨a, rfl⟩ := hA.isAt (by omega)
  have c0 := hA2.cellN (i := 0) (by omega)
  have g0 : (0 : Int) < l.length := by omega
  have b0 := bt_nonneg l 0
  have b1 := bt_lt l 0
  have d0 : Int.tdiv (bt l 0) 16 = bt l 0 / 16 := Int.tdiv_eq_ediv_of_nonneg b0
  have w2' : IntKind.u8.wrap (bt l 0 / 16) = bt l 0 / 16 := wu8 (by omega) (by omega)
  simp (config := {maxSteps := 1000000}) only [↓zvD, zvU, ↓up_apply, ↓hv_apply, ↓upO_some, ↓upO_none, ↓ev_tmp, ↓ev_const, ↓ev_func, ↓ev_global, init, Nat.reduceEqDiff, Nat.reduceAdd, Nat.reduceMul, Nat.reduceSub, ↓reduceIte, Int.reduceEq, Int.reduceNe, Nat.reduceLeDiff, one, Value.cells, Int.reduceLE, Int.reduceLT, Int.reduceToNat, add_mk, reduceCtorEq, tyF, c0, g0, d0, w2', s1, sz2, rd2, re2]
  refine ⟨fun h2 => ?_, fun h2 => bad 3 (by unfold why6 walk6; rw [if_neg (by omega), if_pos h2]) (by omega) _ hm12⟩
  have hab := hA2.blk_lt (by omega)
  have c4 := hA2.cellN (i := 4) (by omega)
  have c5 := hA2.cellN (i := 5) (by omega)
  have g4 : (4 : Int) < l.length := by omega
  have g5 : (5 : Int) < l.length := by omega
  have x0 := bt_nonneg l 4; have x1 := bt_lt l 4; have x2 := bt_nonneg l 5; have x3 := bt_lt l 5
  have e1 : IntKind.i64.wrap (IntKind.i64.wrap (40 + IntKind.i64.wrap (IntKind.i64.wrap (bt l 4) * 256)) + IntKind.i64.wrap (bt l 5)) = 40 + two l 4 := by
    rw [w64_byte, w64_byte, w64 (x := bt l 4 * 256) (by omega) (by omega), w64 (x := 40 + _) (by omega) (by omega), w64 (by omega) (by omega)]
    have e2 : two l 4 = bt l 4 * 256 + bt l 5 := rfl
    omega
  refine draw_calm mixed (by kernel_rfl) ?_
  simp (config := {maxSteps := 1000000}) only [↓zvD, zvU, ↓zqD, ↓up_apply, ↓hv_apply, ↓upO_some, ↓upO_none, ↓ev_tmp, ↓ev_const, ↓ev_func, ↓ev_global, init, Nat.reduceEqDiff, Nat.reduceAdd, Nat.reduceMul, Nat.reduceSub, ↓reduceIte, Int.reduceEq, Int.reduceNe, Nat.reduceLeDiff, one, Value.cells, Int.reduceLE, Int.reduceLT, Int.reduceToNat, add_mk, reduceCtorEq, tyF, c4, c5, g4, g5, hab, add_block, e1]
  intro w3 hm3
  have hm13 := hm12.trans hm3
  have sz3 := sz w3 (hb12.more hm3)
  have re3 := rd w3 _ (hb2.more hm3)
  have rd3 := rd w3 _ (hb12.more hm3)
  have t0 := two_range l 4
  refine ⟨fun h3 => ?_, fun h3 => ?_⟩
  · simp (config := {maxSteps := 1000000}) only [↓zvD, zvU, ↓up_apply, ↓hv_apply, ↓upO_some, ↓upO_none, ↓ev_tmp, ↓ev_const, ↓ev_func, ↓ev_global, init, Nat.reduceEqDiff, Nat.reduceAdd, Nat.reduceMul, Nat.reduceSub, ↓reduceIte, Int.reduceEq, Int.reduceNe, Nat.reduceLeDiff, one, Value.cells, Int.reduceLE, Int.reduceLT, Int.reduceToNat, add_mk, reduceCtorEq, tyF, e1, s1, sz3, re3, rd3]
    exact bad 5 (by unfold why6 walk6; rw [if_neg (by omega), if_neg (by omega), if_pos (by omega)]) (by omega) _ hm13
  have hwalk : walk6 l = go6 8 (bt l 6) ((l.take (40 + two l 4).toNat).drop 40) false := by unfold walk6; rw [if_neg (by omega), if_neg (by omega), if_neg (by omega)]
  obtain ⟨m, hm⟩ := Int.eq_ofNat_of_zero_le (show 0 ≤ 40 + two l 4 by omega)
  rw [hm] at hwalk h3 e1 ⊢
  rw [Int.toNat_natCast] at hwalk
  have hA3 := hA2.more hm3
  have c6 := hA3.cellN (i := 6) (by omega)
  have g6 : (6 : Int) < l.length := by omega
  have bd : ∀ K : Value → Prop, pureP Try.prog (Instr.build 121 #[(0, .int .u8 (bt l 6)), (4, .bool true)]) K = K (.agg (part6 l 0).toArray) := build_eq (P := Try.prog) Try.underlying121 zerNetR netFields (by
    simp only [laid, List.getElem?_toArray, List.getElem?_cons_zero, List.getElem?_cons_succ, Option.map_some, Option.bind_some, cells5, cells4]
    rfl) w
  simp (config := {maxSteps := 1000000}) only [↓zvD, zvU, ↓up_apply, ↓hv_apply, ↓upO_some, ↓upO_none, ↓ev_tmp, ↓ev_const, ↓ev_func, ↓ev_global, init, Nat.reduceEqDiff, Nat.reduceAdd, Nat.reduceMul, Nat.reduceSub, ↓reduceIte, Int.reduceEq, Int.reduceNe, Nat.reduceLeDiff, one, Value.cells, Int.reduceLE, Int.reduceLT, Int.reduceToNat, add_mk, reduceCtorEq, tyF, c6, g6, bd, zerNetR]
  have hb24 := hb2.more hm3
  have hb14 := hb12.more hm3
  have hm4 := more_alloc w3 (.cells netZ.toArray 121)
  have hb4 := Blk.new w3 121 netZ.toArray
  have s4 := size_alloc w3 (.cells netZ.toArray 121)
  generalize w3.alloc (.cells netZ.toArray 121) = w4 at hm4 hb4 s4 ⊢
  rw [List.toList_toArray] at hb4
  have hsz3 := hm3.size
  refine st_all hb4 (by simpa using part6_len l 0 (by omega) (by omega)) rfl (by simp [part6, noBytes, byteV, Value.oneCell']) fun w5 k1 k2 => ?_
  rw [List.toList_toArray] at k2
  have hp1 : w.heap.size + 2 ≤ w3.heap.size := by omega
  have hm15 : More w w5 := k1.below (hm13.trans hm4) (by omega)
  have hb25 := k1.blk (hb24.more hm4) (by omega)
  have hb15 := k1.blk (hb14.more hm4) (by omega)
  clear sz2 sz3 rd2 re2 rd3 re3
  generalize w3.heap.size = p at k1 k2 hp1 ⊢
  refine loop_p [7, 42, 43, 44, 45, 46, 47, 48, 49, 50, 51, 52, 53, 54, 55, 56, 57, 58, 59, 60, 61] (fun e w' => Copy6J l w p (e 42) w') (fun e _ => 16 - (numOf (e 42)).toNat) ?_ ?_
  · exact ⟨0, by simp only [hv_apply, up_apply, upO_some, upO_none, init, List.mem_cons, true_or, or_true, if_true, if_false, ↓reduceIte, Nat.reduceEqDiff, false_or, or_false, List.not_mem_nil, List.getElem?_cons_zero, List.getElem?_cons_succ, Option.getD_some]; rfl, by omega, k2, hb25, hb15, hm15⟩
  clear k1 k2 hm15 hb25 hb15
  rintro v w6 ⟨k, h42, hk, hp6, hb26, hb16, hm6⟩
  simp only [hv_apply, up_apply, upO_some, upO_none, init, List.mem_cons, true_or, or_true, if_true, if_false, ↓reduceIte, Nat.reduceEqDiff, false_or, or_false, List.not_mem_nil, List.getElem?_cons_zero, List.getElem?_cons_succ, Option.getD_some] at h42
  have hA6 := hA.more hm6
  have hab6 : a.block < w.heap.size + 2 := Nat.lt_of_lt_of_le (hA.blk_lt (by omega)) (by omega)
  simp (config := {maxSteps := 1000000}) only [↓zvD, zvU, ↓up_apply, ↓hv_apply, ↓upO_some, ↓upO_none, ↓ev_tmp, ↓ev_const, ↓ev_func, ↓ev_global, init, Nat.reduceEqDiff, Nat.reduceAdd, Nat.reduceMul, Nat.reduceSub, ↓reduceIte, Int.reduceEq, Int.reduceNe, Nat.reduceLeDiff, one, Value.cells, Int.reduceLE, Int.reduceLT, Int.reduceToNat, add_mk, reduceCtorEq, tyF, h42]
  refine ⟨fun h10 => ?_, fun h10 => ?_⟩
  · have k1 : IntKind.i64.wrap (8 + (k : Int)) = ((8 + k : Nat) : Int) := w64 (by omega) (by omega)
    have k2 : IntKind.i64.wrap (24 + (k : Int)) = ((24 + k : Nat) : Int) := w64 (by omega) (by omega)
    have k3 : IntKind.i64.wrap ((k : Int) + 1) = ((k + 1 : Nat) : Int) := w64 (by omega) (by omega)
    have d1 := hA6.cellN (i := 8 + k) (by omega)
    have d2 := hA6.cellN (i := 24 + k) (by omega)
    have g5 : ((8 + k : Nat) : Int) < l.length := by omega
    have g6 : ((24 + k : Nat) : Int) < l.length := by omega
    have g7 : (k : Int) < 16 := by omega
    refine draw_put (w.heap.size + 2) p 121 (1 + k) (.int .u8 (bt l (8 + k))) 14 16 [[], [], [], [], [3], [2, 3, 4], [2, 3, 4, 5], [], [], [8], [7, 8, 9], [7, 8, 9, 10], [], [0, 2, 3, 4, 5, 6, 12], [0, 2, 3, 4, 5, 6, 12, 13], [], [0, 1, 2, 3, 4, 5, 6, 7, 8, 9, 10, 11, 12, 13, 14, 15], [0, 1, 2, 3, 4, 5, 6, 7, 8, 9, 10, 11, 12, 13, 14, 15, 16]] mixed (by kernel_rfl) (by kernel_rfl) ?_
    simp (config := {maxSteps := 1000000}) only [↓zvD, zvU, ↓zqD, ↓up_apply, ↓hv_apply, ↓upO_some, ↓upO_none, ↓ev_tmp, ↓ev_const, ↓ev_func, ↓ev_global, init, Nat.reduceEqDiff, Nat.reduceAdd, Nat.reduceMul, Nat.reduceSub, ↓reduceIte, Int.reduceEq, Int.reduceNe, Nat.reduceLeDiff, one, Value.cells, Int.reduceLE, Int.reduceLT, Int.reduceToNat, add_mk, reduceCtorEq, tyF, h42, k1, k2, k3, d1, d2, g5, g6, g7, add_block, hab6, Int.toNat_natCast, Int.natCast_nonneg]
    have hplen := part6_len l k hk (by omega)
    refine ⟨fun w10 hw10 => ?_, ?_⟩
    · obtain ⟨cs, h11, h12⟩ := hw10.blk hp6
      exact Put.st h11 (by omega) rfl (by omega) fun w' h1 h2 h3 => ⟨h2, h3⟩
    rintro v10 ⟨w10, hw10, hd10⟩
    rw [stop1]
    simp (config := {maxSteps := 1000000}) only [↓zvD, zvU, ↓zqD, ↓up_apply, ↓hv_apply, ↓upO_some, ↓upO_none, ↓ev_tmp, ↓ev_const, ↓ev_func, ↓ev_global, init, Nat.reduceEqDiff, Nat.reduceAdd, Nat.reduceMul, Nat.reduceSub, ↓reduceIte, Int.reduceEq, Int.reduceNe, Nat.reduceLeDiff, one, Value.cells, Int.reduceLE, Int.reduceLT, Int.reduceToNat, add_mk, reduceCtorEq, tyF, h42, k1, k2, k3, d1, d2, g5, g6, g7, add_block, hab6, Int.toNat_natCast, Int.natCast_nonneg]
    intro w11 hw11 hd11
    have hp11 := hw11.done hp6 hd11
    have hb211 := hb26.below hw11.1 (by omega)
    have hb111 := hb16.below hw11.1 (by omega)
    refine st_cell hp11 (by simp [hplen]; omega) rfl fun w12 k4 k5 => ⟨⟨?_, k + 1, rfl, by omega, ?_, ?_, ?_, ?_⟩, ?_⟩
    · repeat (first | exact Same.hv _ _ _ | refine Same.up (by simp) ?_)
    · rw [part6_step _ _ (by omega) (by omega)] at k5
      exact k5
    · exact k4.blk hb211 (by omega)
    · exact k4.blk hb111 (by omega)
    · exact k4.below (Below.trans hm6 (hw11.1.mono (by omega))) (by omega)
    · simp only [numOf]; omega
  obtain rfl : k = 16 := by omega
  obtain ⟨sv, hsv⟩ : ∃ s, s = (l.drop 8).take 16 := ⟨_, rfl⟩
  obtain ⟨dv, hdv⟩ : ∃ s, s = (l.drop 24).take 16 := ⟨_, rfl⟩
  have ls : sv.length = 16 := by rw [hsv, List.length_take, List.length_drop]; omega
  have ld : dv.length = 16 := by rw [hdv, List.length_take, List.length_drop]; omega
  have hpart : part6 l 16 = (NetM.mk (bt l 6) sv dv [] true).cells none 0 := by
    unfold part6 NetM.cells
    rw [← hsv, ← hdv]
    simp [noBytes]
  rw [hpart] at hp6
  have hb6 := bt_nonneg l 6
  have hb6' := bt_lt l 6
  have hm40 : 40 ≤ m := by omega
  have hml : m ≤ l.length := by omega
  clear hpart h42 hk h10 e1 c0 c4 c5 c6 g4 g5 g6 x0 x1 x2 x3 hb24 hb14 hb4 s4 hsz3 bd hA2 hA3 hA6 b0 b1 d0 w2' hb1 hb2 hb12
  simp (config := {maxSteps := 1000000}) only [↓zvD, zvU, ↓up_apply, ↓hv_apply, ↓upO_some, ↓upO_none, ↓ev_tmp, ↓ev_const, ↓ev_func, ↓ev_global, init, Nat.reduceEqDiff, Nat.reduceAdd, Nat.reduceMul, Nat.reduceSub, ↓reduceIte, Int.reduceEq, Int.reduceNe, Nat.reduceLeDiff, one, Value.cells, Int.reduceLE, Int.reduceLT, Int.reduceToNat, add_mk, reduceCtorEq, tyF]
  refine loop_p [8, 9, 10, 62, 63, 64, 65, 66, 67, 68, 69, 70, 71, 72, 73, 74, 75, 76, 77, 78, 79, 80, 81, 82, 83, 84, 85, 86, 87, 88, 89, 90, 91, 92, 93, 94, 95, 96, 97, 98, 99, 100, 101, 102, 103, 104, 105, 106, 107, 108, 109, 110, 111, 112, 113, 114, 115, 116, 117, 118, 119, 120, 121, 122, 123, 124, 125, 126, 127, 128, 129, 130, 131, 132, 133, 134, 135] (fun e w' => Head6J l m sv dv w p (e 8) (e 9) w') (fun e _ => 9 - (numOf (e 9)).toNat) ?_ ?_
  · exact ⟨0, 40, bt l 6, false, by simp only [hv_apply, up_apply, upO_some, upO_none, init, List.mem_cons, true_or, or_true, if_true, if_false, ↓reduceIte, Nat.reduceEqDiff, false_or, or_false, List.not_mem_nil, List.getElem?_cons_zero, List.getElem?_cons_succ, Option.getD_some]; rfl, by simp only [hv_apply, up_apply, upO_some, upO_none, init, List.mem_cons, true_or, or_true, if_true, if_false, ↓reduceIte, Nat.reduceEqDiff, false_or, or_false, List.not_mem_nil, List.getElem?_cons_zero, List.getElem?_cons_succ, Option.getD_some]; rfl, by omega, by omega, hm40, hwalk.symm, hb6, hb6', hp6, hb26, hb16, hm6⟩
  clear hp6 hb26 hb16 hm6
  rintro v7 w7 ⟨n, k, pr, later, h8, h9, hn, hk0, hkm, hgo, hp0, hp1', hp7, hb27, hb17, hm7⟩
  simp only [hv_apply, up_apply, upO_some, upO_none, init, List.mem_cons, true_or, or_true, if_true, if_false, ↓reduceIte, Nat.reduceEqDiff, false_or, or_false, List.not_mem_nil, List.getElem?_cons_zero, List.getElem?_cons_succ, Option.getD_some] at h8 h9
  have hfit : (NetM.mk pr sv dv [] (!later)).Fit := ⟨hp0, hp1', ls, ld⟩
  have c7 := hp7.cell
  have c7f := NetM.cFirst hfit none 0
  have c70 := NetM.c0 (NetM.mk pr sv dv [] (!later)) none 0
  simp only at c7f c70
  have sz7 := sz w7 hb17
  have rd7 := rd w7 _ hb17
  have re7 := rd w7 _ hb27
  cases hmo : (more6 pr && !later) with
  | true =>
    obtain ⟨hmp, hml'⟩ : more6 pr = true ∧ later = false := by simpa using hmo
    subst hml'
    simp only [Bool.not_false] at hp7 c7 c7f c70 hfit
    have hgo2 := go6_more (r := 8 - n) (x := (l.take m).drop k) hmo
    rw [hgo] at hgo2
    have hxl : ((l.take m).drop k).length = m - k := by rw [List.length_drop, List.length_take]; omega
    have bx : ∀ i, k + i < m → bt l (k + i) = bt ((l.take m).drop k) i := fun i hi => by rw [bt_drop, bt_take hi]
    have hdd : ∀ j, ((l.take m).drop k).drop j = (l.take m).drop (k + j) := fun j => by rw [List.drop_drop]
    generalize (l.take m).drop k = x at hgo2 hxl bx hdd
    have esub : IntKind.i64.wrap ((m : Int) - k) = ((m - k : Nat) : Int) := by rw [w64 (by omega) (by omega)]; omega
    have en : IntKind.i64.wrap ((n : Int) + 1) = ((n + 1 : Nat) : Int) := w64 (by omega) (by omega)
    have hA7 := hA.more hm7
    have hab7 := hA7.blk_lt (by omega)
    have hpr : pr = 0 ∨ pr = 43 ∨ pr = 60 ∨ pr = 44 := by
      simp only [more6, Bool.or_eq_true, decide_eq_true_eq] at hmp
      omega
    rcases hpr with rfl | rfl | rfl | rfl
    · simp (config := {maxSteps := 1000000}) only [↓zvD, zvU, ↓up_apply, ↓hv_apply, ↓upO_some, ↓upO_none, ↓ev_tmp, ↓ev_const, ↓ev_func, ↓ev_global, init, Nat.reduceEqDiff, Nat.reduceAdd, Nat.reduceMul, Nat.reduceSub, ↓reduceIte, Int.reduceEq, Int.reduceNe, Nat.reduceLeDiff, one, Value.cells, Int.reduceLE, Int.reduceLT, Int.reduceToNat, add_mk, reduceCtorEq, tyF, h8, h9, c7, c7f, c70]
      refine ⟨fun h8n => ?_, fun h8n => ?_⟩
      · have hn8 : n = 8 := by omega
        subst hn8
        simp (config := {maxSteps := 1000000}) only [↓zvD, zvU, ↓up_apply, ↓hv_apply, ↓upO_some, ↓upO_none, ↓ev_tmp, ↓ev_const, ↓ev_func, ↓ev_global, init, Nat.reduceEqDiff, Nat.reduceAdd, Nat.reduceMul, Nat.reduceSub, ↓reduceIte, Int.reduceEq, Int.reduceNe, Nat.reduceLeDiff, one, Value.cells, Int.reduceLE, Int.reduceLT, Int.reduceToNat, add_mk, reduceCtorEq, tyF, h8, h9, sz7, rd7, re7]
        exact bad 6 (by have : walk6 l = (6, 0, [], false) := hgo2; unfold why6; rw [this]) (by omega) _ hm7
      have hlt : n < 8 := by omega
      rw [show 8 - n = (8 - (n + 1)) + 1 by omega] at hgo2
      simp (config := {maxSteps := 1000000}) only [↓zvD, zvU, ↓up_apply, ↓hv_apply, ↓upO_some, ↓upO_none, ↓ev_tmp, ↓ev_const, ↓ev_func, ↓ev_global, init, Nat.reduceEqDiff, Nat.reduceAdd, Nat.reduceMul, Nat.reduceSub, ↓reduceIte, Int.reduceEq, Int.reduceNe, Nat.reduceLeDiff, one, Value.cells, Int.reduceLE, Int.reduceLT, Int.reduceToNat, add_mk, reduceCtorEq, tyF, h8, h9, esub]
      refine ⟨fun h11 => ?_, fun h11 => ?_⟩
      · have hnone : ∀ q, pass6 q x = none := fun q => by unfold pass6; rw [if_pos (by omega)]
        simp only [hnone] at hgo2
        simp (config := {maxSteps := 1000000}) only [↓zvD, zvU, ↓up_apply, ↓hv_apply, ↓upO_some, ↓upO_none, ↓ev_tmp, ↓ev_const, ↓ev_func, ↓ev_global, init, Nat.reduceEqDiff, Nat.reduceAdd, Nat.reduceMul, Nat.reduceSub, ↓reduceIte, Int.reduceEq, Int.reduceNe, Nat.reduceLeDiff, one, Value.cells, Int.reduceLE, Int.reduceLT, Int.reduceToNat, add_mk, reduceCtorEq, tyF, h8, h9, sz7, rd7, re7]
        exact bad 1 (by unfold why6; rw [hgo2]) (by omega) _ hm7
      have q1 := bx 1 (by omega)
      have q2 := bx 0 (by omega)
      rw [Nat.add_zero] at q2
      have y0 := bt_nonneg x 1
      have y1 := bt_lt x 1
      have y2 := bt_nonneg x 0
      have y3 := bt_lt x 0
      have j1 := hA7.cellN (i := k + 1) (by omega)
      have j0 := hA7.cellN (i := k) (by omega)
      rw [q1] at j1
      rw [q2] at j0
      have o1 : IntKind.i64.wrap ((k : Int) + 1) = ((k + 1 : Nat) : Int) := w64 (by omega) (by omega)
      have o2 : ((k + 1 : Nat) : Int) < l.length := by omega
      have o3 : (k : Int) < l.length := by omega
      have o4 : (0 : Int) ≤ k := by omega
      have o5 : (0 : Int) ≤ ((k + 1 : Nat) : Int) := by omega
      have hh : head6 0 x = 8 * ((x.getD 1 0).toNat + 1) := rfl
      have hbt : bt x 1 = ((x.getD 1 0).toNat : Int) := rfl
      have hlate : late6 0 x = false := rfl
      obtain ⟨h, hhe⟩ : ∃ h, h = head6 0 x := ⟨_, rfl⟩
      have e8 : IntKind.i64.wrap (8 + IntKind.i64.wrap (8 * IntKind.i64.wrap (bt x 1))) = (h : Int) := by
        rw [w64_byte, w64 (x := 8 * bt x 1) (by omega) (by omega), w64 (by omega) (by omega)]
        omega
      simp (config := {maxSteps := 1000000}) only [↓zvD, zvU, ↓up_apply, ↓hv_apply, ↓upO_some, ↓upO_none, ↓ev_tmp, ↓ev_const, ↓ev_func, ↓ev_global, init, Nat.reduceEqDiff, Nat.reduceAdd, Nat.reduceMul, Nat.reduceSub, ↓reduceIte, Int.reduceEq, Int.reduceNe, Nat.reduceLeDiff, one, Value.cells, Int.reduceLE, Int.reduceLT, Int.reduceToNat, add_mk, reduceCtorEq, tyF, h8, h9, c7, c7f, c70, j1, o1, o2, o4, o5, Int.toNat_natCast, esub, e8]
      refine ⟨fun h12 => ?_, fun h12 => ?_⟩
      · have hnone : pass6 0 x = none := by unfold pass6; rw [if_neg (by omega), if_pos (by omega)]
        simp only [hnone] at hgo2
        simp (config := {maxSteps := 1000000}) only [↓zvD, zvU, ↓up_apply, ↓hv_apply, ↓upO_some, ↓upO_none, ↓ev_tmp, ↓ev_const, ↓ev_func, ↓ev_global, init, Nat.reduceEqDiff, Nat.reduceAdd, Nat.reduceMul, Nat.reduceSub, ↓reduceIte, Int.reduceEq, Int.reduceNe, Nat.reduceLeDiff, one, Value.cells, Int.reduceLE, Int.reduceLT, Int.reduceToNat, add_mk, reduceCtorEq, tyF, h8, h9, sz7, rd7, re7]
        exact bad 1 (by unfold why6; rw [hgo2]) (by omega) _ hm7
      have hsome : pass6 0 x = some (x.drop h, false) := by unfold pass6; rw [if_neg (by omega), if_neg (by omega), ← hhe, hlate]
      simp only [hsome, hdd] at hgo2
      have e9 : IntKind.i64.wrap ((k : Int) + (h : Int)) = ((k + h : Nat) : Int) := by rw [w64 (by omega) (by omega)]; omega
      simp (config := {maxSteps := 1000000}) only [↓zvD, zvU, ↓up_apply, ↓hv_apply, ↓upO_some, ↓upO_none, ↓ev_tmp, ↓ev_const, ↓ev_func, ↓ev_global, init, Nat.reduceEqDiff, Nat.reduceAdd, Nat.reduceMul, Nat.reduceSub, ↓reduceIte, Int.reduceEq, Int.reduceNe, Nat.reduceLeDiff, one, Value.cells, Int.reduceLE, Int.reduceLT, Int.reduceToNat, add_mk, reduceCtorEq, tyF, h8, h9, j0, o3, o4, Int.toNat_natCast, e9, en]
      refine st_cell (i := 0) (v := .int .u8 (bt x 0)) hp7 (by rw [NetM.cells_len hfit]; omega) rfl fun w8 k1 k2 => ?_
      have k3 : ((NetM.mk 0 sv dv [] true).cells none 0).set 0 (.int .u8 (bt x 0)) = (NetM.mk (bt x 0) sv dv [] true).cells none 0 := rfl
      rw [k3] at k2
      refine ⟨⟨?_, n + 1, k + h, bt x 0, false, rfl, rfl, by omega, by omega, by omega, hgo2.symm, y2, y3, k2, k1.blk hb27 (by omega), k1.blk hb17 (by omega), k1.below hm7 (by omega)⟩, by simp only [numOf]; omega⟩
      repeat (first | exact Same.hv _ _ _ | refine Same.up (by simp) ?_)
    · simp (config := {maxSteps := 1000000}) only [↓zvD, zvU, ↓up_apply, ↓hv_apply, ↓upO_some, ↓upO_none, ↓ev_tmp, ↓ev_const, ↓ev_func, ↓ev_global, init, Nat.reduceEqDiff, Nat.reduceAdd, Nat.reduceMul, Nat.reduceSub, ↓reduceIte, Int.reduceEq, Int.reduceNe, Nat.reduceLeDiff, one, Value.cells, Int.reduceLE, Int.reduceLT, Int.reduceToNat, add_mk, reduceCtorEq, tyF, h8, h9, c7, c7f, c70]
      refine ⟨fun h8n => ?_, fun h8n => ?_⟩
      · have hn8 : n = 8 := by omega
        subst hn8
        simp (config := {maxSteps := 1000000}) only [↓zvD, zvU, ↓up_apply, ↓hv_apply, ↓upO_some, ↓upO_none, ↓ev_tmp, ↓ev_const, ↓ev_func, ↓ev_global, init, Nat.reduceEqDiff, Nat.reduceAdd, Nat.reduceMul, Nat.reduceSub, ↓reduceIte, Int.reduceEq, Int.reduceNe, Nat.reduceLeDiff, one, Value.cells, Int.reduceLE, Int.reduceLT, Int.reduceToNat, add_mk, reduceCtorEq, tyF, h8, h9, sz7, rd7, re7]
        exact bad 6 (by have : walk6 l = (6, 0, [], false) := hgo2; unfold why6; rw [this]) (by omega) _ hm7
      have hlt : n < 8 := by omega
      rw [show 8 - n = (8 - (n + 1)) + 1 by omega] at hgo2
      simp (config := {maxSteps := 1000000}) only [↓zvD, zvU, ↓up_apply, ↓hv_apply, ↓upO_some, ↓upO_none, ↓ev_tmp, ↓ev_const, ↓ev_func, ↓ev_global, init, Nat.reduceEqDiff, Nat.reduceAdd, Nat.reduceMul, Nat.reduceSub, ↓reduceIte, Int.reduceEq, Int.reduceNe, Nat.reduceLeDiff, one, Value.cells, Int.reduceLE, Int.reduceLT, Int.reduceToNat, add_mk, reduceCtorEq, tyF, h8, h9, esub]
      refine ⟨fun h11 => ?_, fun h11 => ?_⟩
      · have hnone : ∀ q, pass6 q x = none := fun q => by unfold pass6; rw [if_pos (by omega)]
        simp only [hnone] at hgo2
        simp (config := {maxSteps := 1000000}) only [↓zvD, zvU, ↓up_apply, ↓hv_apply, ↓upO_some, ↓upO_none, ↓ev_tmp, ↓ev_const, ↓ev_func, ↓ev_global, init, Nat.reduceEqDiff, Nat.reduceAdd, Nat.reduceMul, Nat.reduceSub, ↓reduceIte, Int.reduceEq, Int.reduceNe, Nat.reduceLeDiff, one, Value.cells, Int.reduceLE, Int.reduceLT, Int.reduceToNat, add_mk, reduceCtorEq, tyF, h8, h9, sz7, rd7, re7]
        exact bad 1 (by unfold why6; rw [hgo2]) (by omega) _ hm7
      have q1 := bx 1 (by omega)
      have q2 := bx 0 (by omega)
      rw [Nat.add_zero] at q2
      have y0 := bt_nonneg x 1
      have y1 := bt_lt x 1
      have y2 := bt_nonneg x 0
      have y3 := bt_lt x 0
      have j1 := hA7.cellN (i := k + 1) (by omega)
      have j0 := hA7.cellN (i := k) (by omega)
      rw [q1] at j1
      rw [q2] at j0
      have o1 : IntKind.i64.wrap ((k : Int) + 1) = ((k + 1 : Nat) : Int) := w64 (by omega) (by omega)
      have o2 : ((k + 1 : Nat) : Int) < l.length := by omega
      have o3 : (k : Int) < l.length := by omega
      have o4 : (0 : Int) ≤ k := by omega
      have o5 : (0 : Int) ≤ ((k + 1 : Nat) : Int) := by omega
      have hh : head6 43 x = 8 * ((x.getD 1 0).toNat + 1) := rfl
      have hbt : bt x 1 = ((x.getD 1 0).toNat : Int) := rfl
      have hlate : late6 43 x = false := rfl
      obtain ⟨h, hhe⟩ : ∃ h, h = head6 43 x := ⟨_, rfl⟩
      have e8 : IntKind.i64.wrap (8 + IntKind.i64.wrap (8 * IntKind.i64.wrap (bt x 1))) = (h : Int) := by
        rw [w64_byte, w64 (x := 8 * bt x 1) (by omega) (by omega), w64 (by omega) (by omega)]
        omega
      simp (config := {maxSteps := 1000000}) only [↓zvD, zvU, ↓up_apply, ↓hv_apply, ↓upO_some, ↓upO_none, ↓ev_tmp, ↓ev_const, ↓ev_func, ↓ev_global, init, Nat.reduceEqDiff, Nat.reduceAdd, Nat.reduceMul, Nat.reduceSub, ↓reduceIte, Int.reduceEq, Int.reduceNe, Nat.reduceLeDiff, one, Value.cells, Int.reduceLE, Int.reduceLT, Int.reduceToNat, add_mk, reduceCtorEq, tyF, h8, h9, c7, c7f, c70, j1, o1, o2, o4, o5, Int.toNat_natCast, esub, e8]
      refine ⟨fun h12 => ?_, fun h12 => ?_⟩
      · have hnone : pass6 43 x = none := by unfold pass6; rw [if_neg (by omega), if_pos (by omega)]
        simp only [hnone] at hgo2
        simp (config := {maxSteps := 1000000}) only [↓zvD, zvU, ↓up_apply, ↓hv_apply, ↓upO_some, ↓upO_none, ↓ev_tmp, ↓ev_const, ↓ev_func, ↓ev_global, init, Nat.reduceEqDiff, Nat.reduceAdd, Nat.reduceMul, Nat.reduceSub, ↓reduceIte, Int.reduceEq, Int.reduceNe, Nat.reduceLeDiff, one, Value.cells, Int.reduceLE, Int.reduceLT, Int.reduceToNat, add_mk, reduceCtorEq, tyF, h8, h9, sz7, rd7, re7]
        exact bad 1 (by unfold why6; rw [hgo2]) (by omega) _ hm7
      have hsome : pass6 43 x = some (x.drop h, false) := by unfold pass6; rw [if_neg (by omega), if_neg (by omega), ← hhe, hlate]
      simp only [hsome, hdd] at hgo2
      have e9 : IntKind.i64.wrap ((k : Int) + (h : Int)) = ((k + h : Nat) : Int) := by rw [w64 (by omega) (by omega)]; omega
      simp (config := {maxSteps := 1000000}) only [↓zvD, zvU, ↓up_apply, ↓hv_apply, ↓upO_some, ↓upO_none, ↓ev_tmp, ↓ev_const, ↓ev_func, ↓ev_global, init, Nat.reduceEqDiff, Nat.reduceAdd, Nat.reduceMul, Nat.reduceSub, ↓reduceIte, Int.reduceEq, Int.reduceNe, Nat.reduceLeDiff, one, Value.cells, Int.reduceLE, Int.reduceLT, Int.reduceToNat, add_mk, reduceCtorEq, tyF, h8, h9, j0, o3, o4, Int.toNat_natCast, e9, en]
      refine st_cell (i := 0) (v := .int .u8 (bt x 0)) hp7 (by rw [NetM.cells_len hfit]; omega) rfl fun w8 k1 k2 => ?_
      have k3 : ((NetM.mk 43 sv dv [] true).cells none 0).set 0 (.int .u8 (bt x 0)) = (NetM.mk (bt x 0) sv dv [] true).cells none 0 := rfl
      rw [k3] at k2
      refine ⟨⟨?_, n + 1, k + h, bt x 0, false, rfl, rfl, by omega, by omega, by omega, hgo2.symm, y2, y3, k2, k1.blk hb27 (by omega), k1.blk hb17 (by omega), k1.below hm7 (by omega)⟩, by simp only [numOf]; omega⟩
      repeat (first | exact Same.hv _ _ _ | refine Same.up (by simp) ?_)
    · simp (config := {maxSteps := 1000000}) only [↓zvD, zvU, ↓up_apply, ↓hv_apply, ↓upO_some, ↓upO_none, ↓ev_tmp, ↓ev_const, ↓ev_func, ↓ev_global, init, Nat.reduceEqDiff, Nat.reduceAdd, Nat.reduceMul, Nat.reduceSub, ↓reduceIte, Int.reduceEq, Int.reduceNe, Nat.reduceLeDiff, one, Value.cells, Int.reduceLE, Int.reduceLT, Int.reduceToNat, add_mk, reduceCtorEq, tyF, h8, h9, c7, c7f, c70]
      refine ⟨fun h8n => ?_, fun h8n => ?_⟩
      · have hn8 : n = 8 := by omega
        subst hn8
        simp (config := {maxSteps := 1000000}) only [↓zvD, zvU, ↓up_apply, ↓hv_apply, ↓upO_some, ↓upO_none, ↓ev_tmp, ↓ev_const, ↓ev_func, ↓ev_global, init, Nat.reduceEqDiff, Nat.reduceAdd, Nat.reduceMul, Nat.reduceSub, ↓reduceIte, Int.reduceEq, Int.reduceNe, Nat.reduceLeDiff, one, Value.cells, Int.reduceLE, Int.reduceLT, Int.reduceToNat, add_mk, reduceCtorEq, tyF, h8, h9, sz7, rd7, re7]
        exact bad 6 (by have : walk6 l = (6, 0, [], false) := hgo2; unfold why6; rw [this]) (by omega) _ hm7
      have hlt : n < 8 := by omega
      rw [show 8 - n = (8 - (n + 1)) + 1 by omega] at hgo2
      simp (config := {maxSteps := 1000000}) only [↓zvD, zvU, ↓up_apply, ↓hv_apply, ↓upO_some, ↓upO_none, ↓ev_tmp, ↓ev_const, ↓ev_func, ↓ev_global, init, Nat.reduceEqDiff, Nat.reduceAdd, Nat.reduceMul, Nat.reduceSub, ↓reduceIte, Int.reduceEq, Int.reduceNe, Nat.reduceLeDiff, one, Value.cells, Int.reduceLE, Int.reduceLT, Int.reduceToNat, add_mk, reduceCtorEq, tyF, h8, h9, esub]
      refine ⟨fun h11 => ?_, fun h11 => ?_⟩
      · have hnone : ∀ q, pass6 q x = none := fun q => by unfold pass6; rw [if_pos (by omega)]
        simp only [hnone] at hgo2
        simp (config := {maxSteps := 1000000}) only [↓zvD, zvU, ↓up_apply, ↓hv_apply, ↓upO_some, ↓upO_none, ↓ev_tmp, ↓ev_const, ↓ev_func, ↓ev_global, init, Nat.reduceEqDiff, Nat.reduceAdd, Nat.reduceMul, Nat.reduceSub, ↓reduceIte, Int.reduceEq, Int.reduceNe, Nat.reduceLeDiff, one, Value.cells, Int.reduceLE, Int.reduceLT, Int.reduceToNat, add_mk, reduceCtorEq, tyF, h8, h9, sz7, rd7, re7]
        exact bad 1 (by unfold why6; rw [hgo2]) (by omega) _ hm7
      have q1 := bx 1 (by omega)
      have q2 := bx 0 (by omega)
      rw [Nat.add_zero] at q2
      have y0 := bt_nonneg x 1
      have y1 := bt_lt x 1
      have y2 := bt_nonneg x 0
      have y3 := bt_lt x 0
      have j1 := hA7.cellN (i := k + 1) (by omega)
      have j0 := hA7.cellN (i := k) (by omega)
      rw [q1] at j1
      rw [q2] at j0
      have o1 : IntKind.i64.wrap ((k : Int) + 1) = ((k + 1 : Nat) : Int) := w64 (by omega) (by omega)
      have o2 : ((k + 1 : Nat) : Int) < l.length := by omega
      have o3 : (k : Int) < l.length := by omega
      have o4 : (0 : Int) ≤ k := by omega
      have o5 : (0 : Int) ≤ ((k + 1 : Nat) : Int) := by omega
      have hh : head6 60 x = 8 * ((x.getD 1 0).toNat + 1) := rfl
      have hbt : bt x 1 = ((x.getD 1 0).toNat : Int) := rfl
      have hlate : late6 60 x = false := rfl
      obtain ⟨h, hhe⟩ : ∃ h, h = head6 60 x := ⟨_, rfl⟩
      have e8 : IntKind.i64.wrap (8 + IntKind.i64.wrap (8 * IntKind.i64.wrap (bt x 1))) = (h : Int) := by
        rw [w64_byte, w64 (x := 8 * bt x 1) (by omega) (by omega), w64 (by omega) (by omega)]
        omega
      simp (config := {maxSteps := 1000000}) only [↓zvD, zvU, ↓up_apply, ↓hv_apply, ↓upO_some, ↓upO_none, ↓ev_tmp, ↓ev_const, ↓ev_func, ↓ev_global, init, Nat.reduceEqDiff, Nat.reduceAdd, Nat.reduceMul, Nat.reduceSub, ↓reduceIte, Int.reduceEq, Int.reduceNe, Nat.reduceLeDiff, one, Value.cells, Int.reduceLE, Int.reduceLT, Int.reduceToNat, add_mk, reduceCtorEq, tyF, h8, h9, c7, c7f, c70, j1, o1, o2, o4, o5, Int.toNat_natCast, esub, e8]
      refine ⟨fun h12 => ?_, fun h12 => ?_⟩
      · have hnone : pass6 60 x = none := by unfold pass6; rw [if_neg (by omega), if_pos (by omega)]
        simp only [hnone] at hgo2
        simp (config := {maxSteps := 1000000}) only [↓zvD, zvU, ↓up_apply, ↓hv_apply, ↓upO_some, ↓upO_none, ↓ev_tmp, ↓ev_const, ↓ev_func, ↓ev_global, init, Nat.reduceEqDiff, Nat.reduceAdd, Nat.reduceMul, Nat.reduceSub, ↓reduceIte, Int.reduceEq, Int.reduceNe, Nat.reduceLeDiff, one, Value.cells, Int.reduceLE, Int.reduceLT, Int.reduceToNat, add_mk, reduceCtorEq, tyF, h8, h9, sz7, rd7, re7]
        exact bad 1 (by unfold why6; rw [hgo2]) (by omega) _ hm7
      have hsome : pass6 60 x = some (x.drop h, false) := by unfold pass6; rw [if_neg (by omega), if_neg (by omega), ← hhe, hlate]
      simp only [hsome, hdd] at hgo2
      have e9 : IntKind.i64.wrap ((k : Int) + (h : Int)) = ((k + h : Nat) : Int) := by rw [w64 (by omega) (by omega)]; omega
      simp (config := {maxSteps := 1000000}) only [↓zvD, zvU, ↓up_apply, ↓hv_apply, ↓upO_some, ↓upO_none, ↓ev_tmp, ↓ev_const, ↓ev_func, ↓ev_global, init, Nat.reduceEqDiff, Nat.reduceAdd, Nat.reduceMul, Nat.reduceSub, ↓reduceIte, Int.reduceEq, Int.reduceNe, Nat.reduceLeDiff, one, Value.cells, Int.reduceLE, Int.reduceLT, Int.reduceToNat, add_mk, reduceCtorEq, tyF, h8, h9, j0, o3, o4, Int.toNat_natCast, e9, en]
      refine st_cell (i := 0) (v := .int .u8 (bt x 0)) hp7 (by rw [NetM.cells_len hfit]; omega) rfl fun w8 k1 k2 => ?_
      have k3 : ((NetM.mk 60 sv dv [] true).cells none 0).set 0 (.int .u8 (bt x 0)) = (NetM.mk (bt x 0) sv dv [] true).cells none 0 := rfl
      rw [k3] at k2
      refine ⟨⟨?_, n + 1, k + h, bt x 0, false, rfl, rfl, by omega, by omega, by omega, hgo2.symm, y2, y3, k2, k1.blk hb27 (by omega), k1.blk hb17 (by omega), k1.below hm7 (by omega)⟩, by simp only [numOf]; omega⟩
      repeat (first | exact Same.hv _ _ _ | refine Same.up (by simp) ?_)
    · simp (config := {maxSteps := 1000000}) only [↓zvD, zvU, ↓up_apply, ↓hv_apply, ↓upO_some, ↓upO_none, ↓ev_tmp, ↓ev_const, ↓ev_func, ↓ev_global, init, Nat.reduceEqDiff, Nat.reduceAdd, Nat.reduceMul, Nat.reduceSub, ↓reduceIte, Int.reduceEq, Int.reduceNe, Nat.reduceLeDiff, one, Value.cells, Int.reduceLE, Int.reduceLT, Int.reduceToNat, add_mk, reduceCtorEq, tyF, h8, h9, c7, c7f, c70]
      refine ⟨fun h8n => ?_, fun h8n => ?_⟩
      · have hn8 : n = 8 := by omega
        subst hn8
        simp (config := {maxSteps := 1000000}) only [↓zvD, zvU, ↓up_apply, ↓hv_apply, ↓upO_some, ↓upO_none, ↓ev_tmp, ↓ev_const, ↓ev_func, ↓ev_global, init, Nat.reduceEqDiff, Nat.reduceAdd, Nat.reduceMul, Nat.reduceSub, ↓reduceIte, Int.reduceEq, Int.reduceNe, Nat.reduceLeDiff, one, Value.cells, Int.reduceLE, Int.reduceLT, Int.reduceToNat, add_mk, reduceCtorEq, tyF, h8, h9, sz7, rd7, re7]
        exact bad 6 (by have : walk6 l = (6, 0, [], false) := hgo2; unfold why6; rw [this]) (by omega) _ hm7
      have hlt : n < 8 := by omega
      rw [show 8 - n = (8 - (n + 1)) + 1 by omega] at hgo2
      simp (config := {maxSteps := 1000000}) only [↓zvD, zvU, ↓up_apply, ↓hv_apply, ↓upO_some, ↓upO_none, ↓ev_tmp, ↓ev_const, ↓ev_func, ↓ev_global, init, Nat.reduceEqDiff, Nat.reduceAdd, Nat.reduceMul, Nat.reduceSub, ↓reduceIte, Int.reduceEq, Int.reduceNe, Nat.reduceLeDiff, one, Value.cells, Int.reduceLE, Int.reduceLT, Int.reduceToNat, add_mk, reduceCtorEq, tyF, h8, h9, esub]
      refine ⟨fun h11 => ?_, fun h11 => ?_⟩
      · have hnone : ∀ q, pass6 q x = none := fun q => by unfold pass6; rw [if_pos (by omega)]
        simp only [hnone] at hgo2
        simp (config := {maxSteps := 1000000}) only [↓zvD, zvU, ↓up_apply, ↓hv_apply, ↓upO_some, ↓upO_none, ↓ev_tmp, ↓ev_const, ↓ev_func, ↓ev_global, init, Nat.reduceEqDiff, Nat.reduceAdd, Nat.reduceMul, Nat.reduceSub, ↓reduceIte, Int.reduceEq, Int.reduceNe, Nat.reduceLeDiff, one, Value.cells, Int.reduceLE, Int.reduceLT, Int.reduceToNat, add_mk, reduceCtorEq, tyF, h8, h9, sz7, rd7, re7]
        exact bad 1 (by unfold why6; rw [hgo2]) (by omega) _ hm7
      have q1 := bx 1 (by omega)
      have q2 := bx 0 (by omega)
      rw [Nat.add_zero] at q2
      have y0 := bt_nonneg x 1
      have y1 := bt_lt x 1
      have y2 := bt_nonneg x 0
      have y3 := bt_lt x 0
      have j1 := hA7.cellN (i := k + 1) (by omega)
      have j0 := hA7.cellN (i := k) (by omega)
      rw [q1] at j1
      rw [q2] at j0
      have o1 : IntKind.i64.wrap ((k : Int) + 1) = ((k + 1 : Nat) : Int) := w64 (by omega) (by omega)
      have o2 : ((k + 1 : Nat) : Int) < l.length := by omega
      have o3 : (k : Int) < l.length := by omega
      have o4 : (0 : Int) ≤ k := by omega
      have o5 : (0 : Int) ≤ ((k + 1 : Nat) : Int) := by omega
      have q3 := bx 2 (by omega)
      have q4 := bx 3 (by omega)
      have z0 := bt_nonneg x 2; have z1 := bt_lt x 2; have z2 := bt_nonneg x 3; have z3 := bt_lt x 3
      have j2 := hA7.cellN (i := k + 2) (by omega)
      have j3 := hA7.cellN (i := k + 3) (by omega)
      rw [q3] at j2
      rw [q4] at j3
      have p2 : IntKind.i64.wrap ((k : Int) + 2) = ((k + 2 : Nat) : Int) := w64 (by omega) (by omega)
      have p3 : IntKind.i64.wrap ((k : Int) + 3) = ((k + 3 : Nat) : Int) := w64 (by omega) (by omega)
      have p4 : ((k + 2 : Nat) : Int) < l.length := by omega
      have p5 : ((k + 3 : Nat) : Int) < l.length := by omega
      have p6 : (0 : Int) ≤ ((k + 2 : Nat) : Int) := by omega
      have p7 : (0 : Int) ≤ ((k + 3 : Nat) : Int) := by omega
      have tw : two x 2 = bt x 2 * 256 + bt x 3 := rfl
      have p8 : IntKind.i64.wrap (IntKind.i64.wrap (IntKind.i64.wrap (bt x 2) * 256) + IntKind.i64.wrap (bt x 3)) = two x 2 := by
        rw [w64_byte, w64_byte, w64 (x := bt x 2 * 256) (by omega) (by omega), w64 (by omega) (by omega), tw]
      have p9 : Int.tdiv (two x 2) 8 = two x 2 / 8 := Int.tdiv_eq_ediv_of_nonneg (by omega)
      have p10 : IntKind.i64.wrap (two x 2 / 8) = two x 2 / 8 := w64 (by omega) (by omega)
      refine draw_seen 13 [[], [], [1], [0, 1, 2], [0, 1, 2, 3], [0, 1, 2, 3, 4], [0, 1, 2, 3, 4, 5], [], [], [8], [7, 8, 9], [7, 8, 9, 10], [7, 8, 9, 10, 11], [0, 1, 2, 3, 4, 5, 6, 7, 8, 9, 10, 11, 12], [0, 1, 2, 3, 4, 5, 6, 7, 8, 9, 10, 11, 12, 13], [0, 1, 2, 3, 4, 5, 6, 7, 8, 9, 10, 11, 12, 13, 14], [0, 1, 2, 3, 4, 5, 6, 7, 8, 9, 10, 11, 12, 13, 14, 15], [0, 1, 2, 3, 4, 5, 6, 7, 8, 9, 10, 11, 12, 13, 14, 15, 16]] (RV.look []) mixed (by kernel_rfl) (by kernel_rfl) (look_keeps _ (by simp)) ?_
      simp (config := {maxSteps := 1000000}) only [↓zvD, zvU, ↓zqD, ↓up_apply, ↓hv_apply, ↓upO_some, ↓upO_none, ↓ev_tmp, ↓ev_const, ↓ev_func, ↓ev_global, init, Nat.reduceEqDiff, Nat.reduceAdd, Nat.reduceMul, Nat.reduceSub, ↓reduceIte, Int.reduceEq, Int.reduceNe, Nat.reduceLeDiff, one, Value.cells, Int.reduceLE, Int.reduceLT, Int.reduceToNat, add_mk, reduceCtorEq, tyF, h8, j2, j3, p2, p3, p4, p5, p6, p7, p8, p9, p10, Int.toNat_natCast, add_block, hab7]
      have hlate : late6 44 x = !decide (two x 2 / 8 = 0) := rfl
      generalize decide (two x 2 / 8 = 0) = b at hlate ⊢
      refine fun w8 hm8 => st_cell (i := 34) (v := .bool b) (hp7.more hm8) (by rw [NetM.cells_len hfit]; omega) rfl fun w9 k1 k2 => ?_
      rw [NetM.setFirst hfit] at k2
      have hfit9 : (NetM.mk 44 sv dv [] b).Fit := ⟨hp0, hp1', ls, ld⟩
      have hp9 : Blk w9 p 121 ((NetM.mk 44 sv dv [] b).cells none 0) := k2
      have hm9 : More w w9 := k1.below (hm7.trans hm8) (by omega)
      have hb29 := k1.blk (hb27.more hm8) (by omega)
      have hb19 := k1.blk (hb17.more hm8) (by omega)
      have j9 := (hA.more hm9).cellN (i := k) (by omega)
      rw [q2] at j9
      rw [esub]
      refine ⟨fun h12 => absurd h12 (by omega), fun h12 => ?_⟩
      have hsome : pass6 44 x = some (x.drop 8, !b) := by unfold pass6; rw [if_neg (by omega), if_neg (by show ¬ x.length < 8; omega), hlate]; rfl
      simp only [hsome, hdd] at hgo2
      have e9 : IntKind.i64.wrap ((k : Int) + 8) = ((k + 8 : Nat) : Int) := w64 (by omega) (by omega)
      simp (config := {maxSteps := 1000000}) only [↓zvD, zvU, ↓up_apply, ↓hv_apply, ↓upO_some, ↓upO_none, ↓ev_tmp, ↓ev_const, ↓ev_func, ↓ev_global, init, Nat.reduceEqDiff, Nat.reduceAdd, Nat.reduceMul, Nat.reduceSub, ↓reduceIte, Int.reduceEq, Int.reduceNe, Nat.reduceLeDiff, one, Value.cells, Int.reduceLE, Int.reduceLT, Int.reduceToNat, add_mk, reduceCtorEq, tyF, h8, h9, j9, o3, o4, Int.toNat_natCast, e9, en]
      refine st_cell (i := 0) (v := .int .u8 (bt x 0)) hp9 (by rw [NetM.cells_len hfit9]; omega) rfl fun w10 k3 k4 => ?_
      have k5 : ((NetM.mk 44 sv dv [] b).cells none 0).set 0 (.int .u8 (bt x 0)) = (NetM.mk (bt x 0) sv dv [] b).cells none 0 := rfl
      rw [k5] at k4
      refine ⟨⟨?_, n + 1, k + 8, bt x 0, !b, rfl, rfl, by omega, by omega, by omega, hgo2.symm, y2, y3, by rw [Bool.not_not]; exact k4, k3.blk hb29 (by omega), k3.blk hb19 (by omega), k3.below hm9 (by omega)⟩, by simp only [numOf]; omega⟩
      repeat (first | exact Same.hv _ _ _ | refine Same.up (by simp) ?_)
  | false =>
    have hgo2 := go6_end (r := 8 - n) (x := (l.take m).drop k) hmo
    rw [hgo] at hgo2
    have hw0 : why6 l = 0 := by unfold why6; rw [hgo2]
    have hp6 : parse6 l = ⟨pr, sv, dv, (l.take m).drop k, !later⟩ := by unfold parse6; rw [if_pos hw0, hgo2, ← hsv, ← hdv]
    cases later with
    | true =>
      simp only [Bool.not_true] at hp7 c7 c7f c70 hfit hp6
      have hn0 : True := trivial
      have hn1 : True := trivial
      have hn2 : True := trivial
      have hn3 : True := trivial
      simp (config := {maxSteps := 1000000}) only [↓zvD, zvU, ↓up_apply, ↓hv_apply, ↓upO_some, ↓upO_none, ↓ev_tmp, ↓ev_const, ↓ev_func, ↓ev_global, init, Nat.reduceEqDiff, Nat.reduceAdd, Nat.reduceMul, Nat.reduceSub, ↓reduceIte, Int.reduceEq, Int.reduceNe, Nat.reduceLeDiff, one, Value.cells, Int.reduceLE, Int.reduceLT, Int.reduceToNat, add_mk, reduceCtorEq, tyF, h8, h9, c7, c7f, c70, hn0, hn1, hn2, hn3]
      have hbl : ((l.take m).drop k).length = m - k := by rw [List.length_drop, List.length_take]; omega
      have hbs : Bs w7 (adv (some a) c k 1) ((l.take m).drop k) := Cs.advB (Cs.takeB (hA.more hm7) m) (by rw [List.length_take]; omega)
      refine ⟨by omega, by omega, by omega, by omega, ?_⟩
      simp only [Int.toNat_natCast]
      rw [← hbl]
      refine st_cell (i := 33) hp7 (by rw [NetM.cells_len hfit]; omega) rfl fun w8 k1 k2 => ?_
      rw [NetM.setBody hfit] at k2
      have hfit8 : (NetM.mk pr sv dv ((l.take m).drop k) false).Fit := ⟨hp0, hp1', ls, ld⟩
      have k2' : Blk w8 p 121 ((NetM.mk pr sv dv ((l.take m).drop k) false).cells (adv (some a) c k 1) (c - k)) := k2
      have r8 := k2'.all_eq 35 (NetM.cells_len hfit8 _ _)
      have hm8 : More w w8 := k1.below hm7 (by omega)
      have hb18 := k1.blk hb17 (by omega)
      simp (config := {maxSteps := 1000000}) only [↓zvD, zvU, ↓up_apply, ↓hv_apply, ↓upO_some, ↓upO_none, ↓ev_tmp, ↓ev_const, ↓ev_func, ↓ev_global, init, Nat.reduceEqDiff, Nat.reduceAdd, Nat.reduceMul, Nat.reduceSub, ↓reduceIte, Int.reduceEq, Int.reduceNe, Nat.reduceLeDiff, one, Value.cells, Int.reduceLE, Int.reduceLT, Int.reduceToNat, add_mk, reduceCtorEq, tyF, r8]
      refine st_all hb18 (by simpa using NetM.cells_len hfit8 _ _) rfl (by simpa using NetM.one _ _ _) fun w9 k3 k4 => ?_
      have r9 := k4.all_eq 35 (by simpa using NetM.cells_len hfit8 _ _)
      simp (config := {maxSteps := 1000000}) only [↓zvD, zvU, ↓up_apply, ↓hv_apply, ↓upO_some, ↓upO_none, ↓ev_tmp, ↓ev_const, ↓ev_func, ↓ev_global, init, Nat.reduceEqDiff, Nat.reduceAdd, Nat.reduceMul, Nat.reduceSub, ↓reduceIte, Int.reduceEq, Int.reduceNe, Nat.reduceLeDiff, one, Value.cells, Int.reduceLE, Int.reduceLT, Int.reduceToNat, add_mk, reduceCtorEq, tyF, r9]
      unfold Ref6R
      rw [hp6, hw0]
      have hm9 : More w w9 := k3.below hm8 (Nat.le_refl _)
      exact ⟨_, _, rfl, ⟨Cs.advB (Cs.takeB (hA.more hm9) m) (by rw [List.length_take]; omega), fun z hz => ⟨a, rfl, adv_blk z hz⟩⟩, hm9⟩
    | false =>
      simp only [Bool.not_false] at hp7 c7 c7f c70 hfit hp6
      have hmp : more6 pr = false := by simpa using hmo
      obtain ⟨hn0, hn1, hn2, hn3⟩ : pr ≠ 0 ∧ pr ≠ 43 ∧ pr ≠ 60 ∧ pr ≠ 44 := by
        simp only [more6, Bool.or_eq_false_iff, decide_eq_false_iff_not] at hmp
        omega
      simp (config := {maxSteps := 1000000}) only [↓zvD, zvU, ↓up_apply, ↓hv_apply, ↓upO_some, ↓upO_none, ↓ev_tmp, ↓ev_const, ↓ev_func, ↓ev_global, init, Nat.reduceEqDiff, Nat.reduceAdd, Nat.reduceMul, Nat.reduceSub, ↓reduceIte, Int.reduceEq, Int.reduceNe, Nat.reduceLeDiff, one, Value.cells, Int.reduceLE, Int.reduceLT, Int.reduceToNat, add_mk, reduceCtorEq, tyF, h8, h9, c7, c7f, c70, hn0, hn1, hn2, hn3]
      have hbl : ((l.take m).drop k).length = m - k := by rw [List.length_drop, List.length_take]; omega
      have hbs : Bs w7 (adv (some a) c k 1) ((l.take m).drop k) := Cs.advB (Cs.takeB (hA.more hm7) m) (by rw [List.length_take]; omega)
      refine ⟨by omega, by omega, by omega, by omega, ?_⟩
      simp only [Int.toNat_natCast]
      rw [← hbl]
      refine st_cell (i := 33) hp7 (by rw [NetM.cells_len hfit]; omega) rfl fun w8 k1 k2 => ?_
      rw [NetM.setBody hfit] at k2
      have hfit8 : (NetM.mk pr sv dv ((l.take m).drop k) true).Fit := ⟨hp0, hp1', ls, ld⟩
      have k2' : Blk w8 p 121 ((NetM.mk pr sv dv ((l.take m).drop k) true).cells (adv (some a) c k 1) (c - k)) := k2
      have r8 := k2'.all_eq 35 (NetM.cells_len hfit8 _ _)
      have hm8 : More w w8 := k1.below hm7 (by omega)
      have hb18 := k1.blk hb17 (by omega)
      simp (config := {maxSteps := 1000000}) only [↓zvD, zvU, ↓up_apply, ↓hv_apply, ↓upO_some, ↓upO_none, ↓ev_tmp, ↓ev_const, ↓ev_func, ↓ev_global, init, Nat.reduceEqDiff, Nat.reduceAdd, Nat.reduceMul, Nat.reduceSub, ↓reduceIte, Int.reduceEq, Int.reduceNe, Nat.reduceLeDiff, one, Value.cells, Int.reduceLE, Int.reduceLT, Int.reduceToNat, add_mk, reduceCtorEq, tyF, r8]
      refine st_all hb18 (by simpa using NetM.cells_len hfit8 _ _) rfl (by simpa using NetM.one _ _ _) fun w9 k3 k4 => ?_
      have r9 := k4.all_eq 35 (by simpa using NetM.cells_len hfit8 _ _)
      simp (config := {maxSteps := 1000000}) only [↓zvD, zvU, ↓up_apply, ↓hv_apply, ↓upO_some, ↓upO_none, ↓ev_tmp, ↓ev_const, ↓ev_func, ↓ev_global, init, Nat.reduceEqDiff, Nat.reduceAdd, Nat.reduceMul, Nat.reduceSub, ↓reduceIte, Int.reduceEq, Int.reduceNe, Nat.reduceLeDiff, one, Value.cells, Int.reduceLE, Int.reduceLT, Int.reduceToNat, add_mk, reduceCtorEq, tyF, r9]
      unfold Ref6R
      rw [hp6, hw0]
      have hm9 : More w w9 := k3.below hm8 (Nat.le_refl _)
      exact ⟨_, _, rfl, ⟨Cs.advB (Cs.takeB (hA.more hm9) m) (by rw [List.length_take]; omega), fun z hz => ⟨a, rfl, adv_blk z hz⟩⟩, hm9⟩
end Go.Proofs.Ytbknfmaefmbfdaa
