/-
  Layer 12: FramePads.
-/
import Derived.Test.YtbknfmaefmbfdaaLaw12P
import Derived.Test.YtbknfmaefmbfdaaMore12
namespace Go.Proofs.Ytbknfmaefmbfdaa
open Go Go.RowKit Go.Proofs.RV
set_option linter.unusedSimpArgs false
set_option linter.unusedVariables false
set_option maxRecDepth 10000
set_option maxHeartbeats 4000000

theorem frameWhy_zero {l : List UInt8} (h : frameWhy l = 0) : l.length ≤ 9216 ∧ (etherM l).2.2 = 0 ∧ whyIp (etherM l).1 (ipOf l) = 0 ∧ (portsM (etherM l).1 (netOf l)).2.2 = 0 := by
  unfold frameWhy at h
  split at h
  · cases h
  split at h
  · rename_i h1
    exact absurd h h1
  split at h
  · rename_i h1
    exact absurd h h1
  · rename_i h0 h1 h2
    exact ⟨by omega, by omega, by omega, h⟩
theorem why6_more {x : List UInt8} (h : why6 x = 0) (m : List UInt8) : why6 (x ++ m) = 0 ∧ parse6 (x ++ m) = parse6 x := by
  have := why6_zero h
  have ht := two_range x 4
  exact cut6_more h (x ++ m) (List.take_append_of_le_length (by omega))
theorem why4_more {x : List UInt8} (h : why4 x = 0) (m : List UInt8) : why4 (x ++ m) = 0 ∧ parse4 (x ++ m) = parse4 x := by
  have := cut_more h (x.drop (two x 2).toNat ++ m)
  rw [← List.append_assoc, List.take_append_drop] at this
  exact this
theorem whyIp_more {v6 : Bool} {x : List UInt8} (h : whyIp v6 x = 0) (m : List UInt8) : whyIp v6 (x ++ m) = 0 ∧ parseIp v6 (x ++ m) = parseIp v6 x := by
  cases v6 with
  | true => exact why6_more h m
  | false => exact why4_more h m
theorem ether_more {l : List UInt8} (h : (etherM l).2.2 = 0) (m : List UInt8) : etherM (l ++ m) = etherM l ∧ ipOf (l ++ m) = ipOf l ++ m := by
  have e : etherM l = ((etherM l).1, (etherM l).2.1, 0) := by rw [← h]
  obtain ⟨a, hx, _, hal, hall, _⟩ := ethGo_fine l 2 12 _ _ e
  have he : etherM (l ++ m) = etherM l := by
    have := hall (l ++ m) (List.take_append_of_le_length hal)
    rw [e]
    exact this
  refine ⟨he, ?_⟩
  unfold ipOf
  rw [he, hx, Int.toNat_natCast, List.drop_append_of_le_length hal]
theorem frame_more {l : List UInt8} (h : frameWhy l = 0) (m : List UInt8) (hl : l.length + m.length ≤ 9216) : frameWhy (l ++ m) = 0 ∧ flowOf (l ++ m) = flowOf l := by
  obtain ⟨h1, h2, h3, h4⟩ := frameWhy_zero h
  obtain ⟨he, hi⟩ := ether_more h2 m
  obtain ⟨hw, hp⟩ := whyIp_more h3 m
  have hn : netOf (l ++ m) = netOf l := by
    unfold netOf
    rw [he, hi, hp]
  refine ⟨?_, ?_⟩
  · unfold frameWhy
    rw [if_neg (by rw [List.length_append]; omega), he, if_neg (by omega), hi, if_neg (by omega), hn, h4]
  · unfold flowOf
    rw [he, hn]
theorem frame_pads (w : World) (A A' : Option Addr) (l l' : List UInt8) (c c' : Nat) (hA : Bs w A l) (hA' : Bs w A' l') (hc : l.length ≤ c) (hc' : l'.length ≤ c') :
    Ret Try.prog 16 #[.slice A l.length c, .slice A' l'.length c'] w fun v w' => v = .bool true ∧ More w w' := by
  refine ret_of Try.func16 rfl (by kernel_rfl) (Nat.le_of_ble_eq_true (by kernel_rfl)) ?_
  simp (config := {maxSteps := 1000000}) only [↓zvD, zvU, ↓up_apply, ↓hv_apply, ↓upO_some, ↓upO_none, ↓ev_tmp, ↓ev_const, ↓ev_func, ↓ev_global, init, Nat.reduceEqDiff, Nat.reduceAdd, Nat.reduceMul, Nat.reduceSub, ↓reduceIte, Int.reduceEq, Int.reduceNe, Nat.reduceLeDiff, one, Value.cells, Int.reduceLE, Int.reduceLT, Int.reduceToNat, add_mk, reduceCtorEq, tyF]
  refine call_ok Try.call36 (law12_awake w) ?_
  rintro _ w1 ⟨rfl, hm1⟩
  simp (config := {maxSteps := 1000000}) only [↓zvD, zvU, ↓up_apply, ↓hv_apply, ↓upO_some, ↓upO_none, ↓ev_tmp, ↓ev_const, ↓ev_func, ↓ev_global, init, Nat.reduceEqDiff, Nat.reduceAdd, Nat.reduceMul, Nat.reduceSub, ↓reduceIte, Int.reduceEq, Int.reduceNe, Nat.reduceLeDiff, one, Value.cells, Int.reduceLE, Int.reduceLT, Int.reduceToNat, add_mk, reduceCtorEq, tyF]
  refine ⟨fun h1 => ?_, fun h1 => ⟨fun h2 => ?_, fun h2 => ?_⟩⟩
  · refine call_ok Try.call36 (law12_awake w1) ?_
    rintro _ w2 ⟨rfl, hm2⟩
    simp (config := {maxSteps := 1000000}) only [↓zvD, zvU, ↓up_apply, ↓hv_apply, ↓upO_some, ↓upO_none, ↓ev_tmp, ↓ev_const, ↓ev_func, ↓ev_global, init, Nat.reduceEqDiff, Nat.reduceAdd, Nat.reduceMul, Nat.reduceSub, ↓reduceIte, Int.reduceEq, Int.reduceNe, Nat.reduceLeDiff, one, Value.cells, Int.reduceLE, Int.reduceLT, Int.reduceToNat, add_mk, reduceCtorEq, tyF]
    exact More.trans hm1 hm2
  · refine call_ok Try.call36 (law12_awake w1) ?_
    rintro _ w2 ⟨rfl, hm2⟩
    simp (config := {maxSteps := 1000000}) only [↓zvD, zvU, ↓up_apply, ↓hv_apply, ↓upO_some, ↓upO_none, ↓ev_tmp, ↓ev_const, ↓ev_func, ↓ev_global, init, Nat.reduceEqDiff, Nat.reduceAdd, Nat.reduceMul, Nat.reduceSub, ↓reduceIte, Int.reduceEq, Int.reduceNe, Nat.reduceLeDiff, one, Value.cells, Int.reduceLE, Int.reduceLT, Int.reduceToNat, add_mk, reduceCtorEq, tyF]
    exact More.trans hm1 hm2
  refine call_ok Try.call37 (frame_parse w1 A l c (hA.more hm1) hc (by omega)) ?_
  rintro _ w2 ⟨rfl, hm2⟩
  have hm12 := hm1.trans hm2
  have f1 := frameM_fit l
  have pz := pack_build0 w
  simp (config := {maxSteps := 1000000}) only [↓zvD, zvU, ↓up_apply, ↓hv_apply, ↓upO_some, ↓upO_none, ↓ev_tmp, ↓ev_const, ↓ev_func, ↓ev_global, init, Nat.reduceEqDiff, Nat.reduceAdd, Nat.reduceMul, Nat.reduceSub, ↓reduceIte, Int.reduceEq, Int.reduceNe, Nat.reduceLeDiff, one, Value.cells, Int.reduceLE, Int.reduceLT, Int.reduceToNat, add_mk, reduceCtorEq, tyF, zerPack]
  refine pack_var f1 (frameM_pref l) fun w3 hm3 hb3 hs3 => ?_
  have hm13 := hm12.trans hm3
  have r3 := hb3.all_eq 46 (PackM.cells_len f1 (frameM_pref l))
  have pe := pack_eq f1 flowZ_fit (b := packZ) (frameM_pref l) rfl w
  simp (config := {maxSteps := 1000000}) only [↓zvD, zvU, ↓up_apply, ↓hv_apply, ↓upO_some, ↓upO_none, ↓ev_tmp, ↓ev_const, ↓ev_func, ↓ev_global, init, Nat.reduceEqDiff, Nat.reduceAdd, Nat.reduceMul, Nat.reduceSub, ↓reduceIte, Int.reduceEq, Int.reduceNe, Nat.reduceLeDiff, one, Value.cells, Int.reduceLE, Int.reduceLT, Int.reduceToNat, add_mk, reduceCtorEq, tyF, r3, pz, pe]
  refine ⟨fun h3 => ?_, fun h3 => ?_⟩
  rotate_left
  · have hz : frameM l = packZ := by unfold frameM; rw [if_neg h3]
    simp only [hz, decide_true, true_and]
    exact hm13
  obtain ⟨hw', hfl'⟩ := frame_more h3 l' (by omega)
  have hM : frameM l = ⟨0, flowOf l, prefM (flowOf l), l.length⟩ := by unfold frameM; rw [if_pos h3]
  have hM' : frameM (l ++ l') = ⟨0, flowOf l, prefM (flowOf l), ((l ++ l').length : Nat)⟩ := by unfold frameM; rw [if_pos hw', hfl']
  clear pe r3 pz
  refine bslice (z := .int .u8 0) (cells := #[]) Try.underlying31 byteE (by omega) (bcells_list [] (by simp)) ?_
  have hm6 := more_alloc w3 (.cells #[] 5)
  have s6 : (w3.alloc (.cells #[] 5)).heap.size = w3.heap.size + 1 := size_alloc _ _
  have own0 := Own.made w3 5 1 #[] 0 rfl (by simp [maxLen]) (B := w3.heap.size) (Nat.le_refl _)
  generalize w3.alloc (.cells #[] 5) = w6 at hm6 s6 own0 ⊢
  simp (config := {maxSteps := 1000000}) only [↓zvD, zvU, ↓up_apply, ↓hv_apply, ↓upO_some, ↓upO_none, ↓ev_tmp, ↓ev_const, ↓ev_func, ↓ev_global, init, Nat.reduceEqDiff, Nat.reduceAdd, Nat.reduceMul, Nat.reduceSub, ↓reduceIte, Int.reduceEq, Int.reduceNe, Nat.reduceLeDiff, one, Value.cells, Int.reduceLE, Int.reduceLT, Int.reduceToNat, add_mk, reduceCtorEq, tyF]
  refine app_own (m := l.length) Try.underlying31 byteE rfl (by omega) own0 (hA.more (hm13.trans hm6)) (by simp) (byteV_one _) (by simp only [maxLen]; omega) (by omega) (by omega) ?_
  intro A8 c8 w8 ho8 hg8 _
  have hm38 : More w3 w8 := grown_below own0 hm6 (by omega) hg8
  have hm18 : More w w8 := hm13.trans hm38
  have s8 := hg8.size
  rw [Nat.zero_add, show (#[] : Array Value).toList = [] from rfl, List.nil_append] at ho8
  rw [Nat.zero_add]
  simp (config := {maxSteps := 1000000}) only [↓zvD, zvU, ↓up_apply, ↓hv_apply, ↓upO_some, ↓upO_none, ↓ev_tmp, ↓ev_const, ↓ev_func, ↓ev_global, init, Nat.reduceEqDiff, Nat.reduceAdd, Nat.reduceMul, Nat.reduceSub, ↓reduceIte, Int.reduceEq, Int.reduceNe, Nat.reduceLeDiff, one, Value.cells, Int.reduceLE, Int.reduceLT, Int.reduceToNat, add_mk, reduceCtorEq, tyF]
  refine app_own (m := l'.length) (B := w3.heap.size) Try.underlying31 byteE rfl (by omega) ho8 (hA'.more hm18) (by simp) (byteV_one _) (by simp only [maxLen]; omega) (by omega) (by omega) ?_
  intro A9 c9 w9 ho9 hg9 _
  have hm39 : More w3 w9 := grown_below ho8 hm38 (by omega) hg9
  have hm19 : More w w9 := hm13.trans hm39
  rw [← List.map_append] at ho9
  have hLen : (l ++ l').length = l.length + l'.length := List.length_append
  have hle9 := ho9.le
  simp (config := {maxSteps := 1000000}) only [↓zvD, zvU, ↓up_apply, ↓hv_apply, ↓upO_some, ↓upO_none, ↓ev_tmp, ↓ev_const, ↓ev_func, ↓ev_global, init, Nat.reduceEqDiff, Nat.reduceAdd, Nat.reduceMul, Nat.reduceSub, ↓reduceIte, Int.reduceEq, Int.reduceNe, Nat.reduceLeDiff, one, Value.cells, Int.reduceLE, Int.reduceLT, Int.reduceToNat, add_mk, reduceCtorEq, tyF]
  refine call_ok Try.call37 (by have := frame_parse w9 A9 (l ++ l') c9 ho9.cs (by omega) (by omega); rw [hLen] at this; exact this) ?_
  rintro _ w10 ⟨rfl, hm10⟩
  have f2 := frameM_fit (l ++ l')
  simp (config := {maxSteps := 1000000}) only [↓zvD, zvU, ↓up_apply, ↓hv_apply, ↓upO_some, ↓upO_none, ↓ev_tmp, ↓ev_const, ↓ev_func, ↓ev_global, init, Nat.reduceEqDiff, Nat.reduceAdd, Nat.reduceMul, Nat.reduceSub, ↓reduceIte, Int.reduceEq, Int.reduceNe, Nat.reduceLeDiff, one, Value.cells, Int.reduceLE, Int.reduceLT, Int.reduceToNat, add_mk, reduceCtorEq, tyF, zerPack]
  refine pack_var f2 (frameM_pref (l ++ l')) fun w11 hm11 hb11 hs11 => ?_
  have hb3' := ((hb3.more hm39).more hm10).more hm11
  have c45 : (frameM l).cells[45]? = some (.int .i64 l.length) := by
    rw [hM]
    have e1 := FlowM.cells_len (flowOf_fit l)
    have e2 := PrefM.cells_len (prefM_len (flowOf_fit l))
    simp [PackM.cells, List.getElem?_append, e1, e2]
  have e45 : IntKind.i64.wrap ((l.length : Int) + l'.length) = ((l ++ l').length : Nat) := by rw [w64 (by omega) (by omega), hLen]; omega
  have cl := PackM.cells_len f1 (frameM_pref l)
  simp (config := {maxSteps := 1000000}) only [↓zvD, zvU, ↓up_apply, ↓hv_apply, ↓upO_some, ↓upO_none, ↓ev_tmp, ↓ev_const, ↓ev_func, ↓ev_global, init, Nat.reduceEqDiff, Nat.reduceAdd, Nat.reduceMul, Nat.reduceSub, ↓reduceIte, Int.reduceEq, Int.reduceNe, Nat.reduceLeDiff, one, Value.cells, Int.reduceLE, Int.reduceLT, Int.reduceToNat, add_mk, reduceCtorEq, tyF, hb3'.cell, c45, e45]
  refine st_cell (i := 45) (v := .int .i64 ((l ++ l').length : Nat)) hb3' (by omega) rfl fun w12 k1 k2 => ?_
  have hset : (frameM l).cells.set 45 (.int .i64 ((l ++ l').length : Nat)) = (frameM (l ++ l')).cells := by
    rw [hM, hM']
    have e1 := FlowM.cells_len (flowOf_fit l)
    have e2 := PrefM.cells_len (prefM_len (flowOf_fit l))
    simp [PackM.cells, List.set_append, e1, e2]
  rw [hset] at k2
  have ra := k2.all_eq 46 (PackM.cells_len f2 (frameM_pref _))
  have hb11' := k1.blk hb11 (by have := hm10.size; have := hm39.size; omega)
  have rb := hb11'.all_eq 46 (PackM.cells_len f2 (frameM_pref _))
  have pe := pack_eq f2 f2 (frameM_pref (l ++ l')) (frameM_pref (l ++ l')) w
  simp only [decide_true] at pe
  simp (config := {maxSteps := 1000000}) only [↓zvD, zvU, ↓up_apply, ↓hv_apply, ↓upO_some, ↓upO_none, ↓ev_tmp, ↓ev_const, ↓ev_func, ↓ev_global, init, Nat.reduceEqDiff, Nat.reduceAdd, Nat.reduceMul, Nat.reduceSub, ↓reduceIte, Int.reduceEq, Int.reduceNe, Nat.reduceLeDiff, one, Value.cells, Int.reduceLE, Int.reduceLT, Int.reduceToNat, add_mk, reduceCtorEq, tyF, ra, rb, pe, hw']
  exact k1.below ((hm19.trans hm10).trans hm11) hm12.size
end Go.Proofs.Ytbknfmaefmbfdaa
