/-
  Layer 10: what an idle program answers wrongly, Inet6Cut.
-/
import Derived.Test.YtejigcfdggkhgaaInet6P
import Derived.Test.YtejigcfdggkhgaaFi
namespace Go.Proofs.Ytejigcfdggkhgaa
open Go Go.RowKit Go.Proofs.RV
set_option linter.unusedSimpArgs false
set_option linter.unusedVariables false
set_option maxRecDepth 10000
set_option maxHeartbeats 4000000

theorem parse6_fit (l : List UInt8) : (parse6 l).Fit := by
  unfold parse6
  split
  · rename_i h
    have hp : ∀ (r : Nat) (p : Int) (x : List UInt8) (b : Bool), 0 ≤ p ∧ p < 256 → 0 ≤ (go6 r p x b).2.1 ∧ (go6 r p x b).2.1 < 256 := by
      intro r
      induction r with
      | zero =>
        intro p x b hp
        unfold go6
        split
        · simp
        · exact hp
      | succ r ih =>
        intro p x b hp
        unfold go6
        split
        · split
          · simp
          · exact ih _ _ _ ⟨bt_nonneg _ _, bt_lt _ _⟩
        · exact hp
    have h40 : 40 ≤ l.length ∧ 0 ≤ (walk6 l).2.1 ∧ (walk6 l).2.1 < 256 := by
      unfold why6 at h
      unfold walk6 at h ⊢
      split at h
      · simp at h
      · rename_i h1
        rw [if_neg h1]
        refine ⟨by omega, ?_⟩
        split
        · simp
        split
        · simp
        · exact hp _ _ _ _ ⟨bt_nonneg _ _, bt_lt _ _⟩
    refine ⟨h40.2.1, h40.2.2, ?_, ?_⟩
    · simp; omega
    · simp; omega
  · exact netNone_fit
def aw6 : List UInt8 := [96, 0, 0, 0, 0, 8, 17, 0, 0, 0, 0, 0, 0, 0, 0, 0, 0, 0, 0, 0, 0, 0, 0, 0, 0, 0, 0, 0, 0, 0, 0, 0, 0, 0, 0, 0, 0, 0, 0, 0, 7, 0, 0, 0, 0, 0, 0, 0]
theorem law10_awake (w : World) : Ret Try.prog 26 #[] w fun v w' => v = .bool true ∧ More w w' := by
  refine ret_of Try.func26 rfl (by kernel_rfl) (Nat.le_of_ble_eq_true (by kernel_rfl)) ?_
  simp (config := {maxSteps := 1000000}) only [↓zvD, zvU, ↓up_apply, ↓hv_apply, ↓upO_some, ↓upO_none, ↓ev_tmp, ↓ev_const, ↓ev_func, ↓ev_global, init, Nat.reduceEqDiff, Nat.reduceAdd, Nat.reduceMul, Nat.reduceSub, ↓reduceIte, Int.reduceEq, Int.reduceNe, Nat.reduceLeDiff, one, Value.cells, Int.reduceLE, Int.reduceLT, Int.reduceToNat, add_mk, reduceCtorEq, tyF]
  refine mk_slice (n := 48) Try.underlying23 byteE (by decide) (by decide) ?_
  have hm1 := more_alloc w (.cells (madeCells (Value.int .u8 0).cells (48 * 1)) 5)
  have hb1 := Blk.new w 5 (madeCells (Value.int .u8 0).cells (48 * 1))
  have hz : (madeCells (Value.int .u8 0).cells (48 * 1)).toList = (noBytes 48).map byteV := by
    rw [show (Value.int IntKind.u8 0).cells = #[.int .u8 0] from rfl, toList_madeCells_one]
    simp [noBytes, byteV]
  rw [hz] at hb1
  generalize w.alloc (.cells (madeCells (Value.int .u8 0).cells (48 * 1)) 5) = w1 at hm1 hb1 ⊢
  simp (config := {maxSteps := 1000000}) only [↓zvD, zvU, ↓up_apply, ↓hv_apply, ↓upO_some, ↓upO_none, ↓ev_tmp, ↓ev_const, ↓ev_func, ↓ev_global, init, Nat.reduceEqDiff, Nat.reduceAdd, Nat.reduceMul, Nat.reduceSub, ↓reduceIte, Int.reduceEq, Int.reduceNe, Nat.reduceLeDiff, one, Value.cells, Int.reduceLE, Int.reduceLT, Int.reduceToNat, add_mk, reduceCtorEq, tyF]
  refine st_cell hb1 (by simp [noBytes]) rfl fun w2 k1 k2 => ?_
  have hm2 := k1.below hm1 (Nat.le_refl _)
  try simp (config := {maxSteps := 1000000}) only [↓zvD, zvU, ↓up_apply, ↓hv_apply, ↓upO_some, ↓upO_none, ↓ev_tmp, ↓ev_const, ↓ev_func, ↓ev_global, init, Nat.reduceEqDiff, Nat.reduceAdd, Nat.reduceMul, Nat.reduceSub, ↓reduceIte, Int.reduceEq, Int.reduceNe, Nat.reduceLeDiff, one, Value.cells, Int.reduceLE, Int.reduceLT, Int.reduceToNat, add_mk, reduceCtorEq, tyF]
  refine st_cell k2 (by simp [noBytes]) rfl fun w3 k3 k4 => ?_
  have hm3 := k3.below hm2 (Nat.le_refl _)
  try simp (config := {maxSteps := 1000000}) only [↓zvD, zvU, ↓up_apply, ↓hv_apply, ↓upO_some, ↓upO_none, ↓ev_tmp, ↓ev_const, ↓ev_func, ↓ev_global, init, Nat.reduceEqDiff, Nat.reduceAdd, Nat.reduceMul, Nat.reduceSub, ↓reduceIte, Int.reduceEq, Int.reduceNe, Nat.reduceLeDiff, one, Value.cells, Int.reduceLE, Int.reduceLT, Int.reduceToNat, add_mk, reduceCtorEq, tyF]
  refine st_cell k4 (by simp [noBytes]) rfl fun w4 k5 k6 => ?_
  have hm4 := k5.below hm3 (Nat.le_refl _)
  try simp (config := {maxSteps := 1000000}) only [↓zvD, zvU, ↓up_apply, ↓hv_apply, ↓upO_some, ↓upO_none, ↓ev_tmp, ↓ev_const, ↓ev_func, ↓ev_global, init, Nat.reduceEqDiff, Nat.reduceAdd, Nat.reduceMul, Nat.reduceSub, ↓reduceIte, Int.reduceEq, Int.reduceNe, Nat.reduceLeDiff, one, Value.cells, Int.reduceLE, Int.reduceLT, Int.reduceToNat, add_mk, reduceCtorEq, tyF]
  refine st_cell k6 (by simp [noBytes]) rfl fun w5 k7 k8 => ?_
  have hm5 := k7.below hm4 (Nat.le_refl _)
  have hb5 : Blk w5 w.heap.size 5 (aw6.map byteV) := k8
  have e5 : why6 aw6 = 0 := by decide
  have e6 : parse6 aw6 = ⟨17, noBytes 16, noBytes 16, [7, 0, 0, 0, 0, 0, 0, 0], true⟩ := by
    have : (parse6 aw6).proto = 17 ∧ (parse6 aw6).src = noBytes 16 ∧ (parse6 aw6).dst = noBytes 16 ∧ (parse6 aw6).body = [7, 0, 0, 0, 0, 0, 0, 0] ∧ (parse6 aw6).first = true := by decide
    exact NetM.ext' this
  try simp (config := {maxSteps := 1000000}) only [↓zvD, zvU, ↓up_apply, ↓hv_apply, ↓upO_some, ↓upO_none, ↓ev_tmp, ↓ev_const, ↓ev_func, ↓ev_global, init, Nat.reduceEqDiff, Nat.reduceAdd, Nat.reduceMul, Nat.reduceSub, ↓reduceIte, Int.reduceEq, Int.reduceNe, Nat.reduceLeDiff, one, Value.cells, Int.reduceLE, Int.reduceLT, Int.reduceToNat, add_mk, reduceCtorEq, tyF]
  refine call_ok Try.call27 (inet6_parse w5 (some ⟨w.heap.size, 0, none⟩) aw6 48 hb5.cs (by decide) (by decide)) ?_
  rintro _ w6 ⟨A6, c6, rfl, ho6, hm6⟩
  rw [e6] at ho6
  rw [e5, e6]
  simp (config := {maxSteps := 1000000}) only [↓zvD, zvU, ↓up_apply, ↓hv_apply, ↓upO_some, ↓upO_none, ↓ev_tmp, ↓ev_const, ↓ev_func, ↓ev_global, init, Nat.reduceEqDiff, Nat.reduceAdd, Nat.reduceMul, Nat.reduceSub, ↓reduceIte, Int.reduceEq, Int.reduceNe, Nat.reduceLeDiff, one, Value.cells, Int.reduceLE, Int.reduceLT, Int.reduceToNat, add_mk, reduceCtorEq, tyF, zerNet]
  have hfit : (NetM.mk 17 (noBytes 16) (noBytes 16) [7, 0, 0, 0, 0, 0, 0, 0] true).Fit := ⟨by decide, by decide, rfl, rfl⟩
  refine net_var hfit fun w7 hm7 hb7 hs7 => ?_
  obtain ⟨g, rfl, _, _⟩ := ho6.at' (by decide)
  have c0 := (ho6.more hm7).cellG (i := 0) (by decide)
  simp (config := {maxSteps := 1000000}) only [↓zvD, zvU, ↓up_apply, ↓hv_apply, ↓upO_some, ↓upO_none, ↓ev_tmp, ↓ev_const, ↓ev_func, ↓ev_global, init, Nat.reduceEqDiff, Nat.reduceAdd, Nat.reduceMul, Nat.reduceSub, ↓reduceIte, Int.reduceEq, Int.reduceNe, Nat.reduceLeDiff, one, Value.cells, Int.reduceLE, Int.reduceLT, Int.reduceToNat, add_mk, reduceCtorEq, tyF, hb7.cell, NetM.c0, NetM.cBody hfit, NetM.cFirst hfit, c0]
  have : bt [7, 0, 0, 0, 0, 0, 0, 0] 0 = 7 := by decide
  have hm : More w w7 := More.trans (More.trans hm5 hm6) hm7
  exact ⟨fun _ => ⟨by decide, fun _ => hm, fun h => absurd this h⟩, fun h => absurd rfl h⟩
theorem bt_of6 {l l' : List UInt8} {a i : Nat} (h : l'.take a = l.take a) (hi : i < a) : bt l' i = bt l i := by
  have h1 : (l'.take a)[i]? = (l.take a)[i]? := by rw [h]
  rw [List.getElem?_take_of_lt hi, List.getElem?_take_of_lt hi] at h1
  simp [bt, List.getD_eq_getElem?_getD, h1]
/-- what a fine packet is -/
theorem why6_zero {l : List UInt8} (h : why6 l = 0) : 40 ≤ l.length ∧ bt l 0 / 16 = 6 ∧ 40 + two l 4 ≤ l.length := by
  unfold why6 walk6 at h
  split at h
  · simp at h
  split at h
  · simp at h
  split at h
  · simp at h
  omega
/-- cut ahead of its end -/
theorem cut6_short {l : List UInt8} (h : why6 l = 0) (k : Nat) (hk : (k : Int) < 40 + two l 4) : why6 (l.take k) = 1 ∨ why6 (l.take k) = 5 := by
  obtain ⟨h1, h2, h3⟩ := why6_zero h
  have hlen : (l.take k).length = k := by rw [List.length_take]; omega
  have hself : (l.take k).take k = l.take k := by rw [List.take_take, Nat.min_self]
  rcases Nat.lt_or_ge k 40 with h4 | h4
  · left
    unfold why6 walk6
    rw [if_pos (by omega)]
  · right
    have b0 : bt (l.take k) 0 = bt l 0 := bt_of6 hself (by omega)
    have t4 : two (l.take k) 4 = two l 4 := by unfold two; rw [bt_of6 hself (by omega), bt_of6 hself (by omega)]
    unfold why6 walk6
    rw [if_neg (by omega), b0, if_neg (by omega), t4, if_pos (by omega)]
/-- what stands behind its end makes no difference -/
theorem cut6_more {l : List UInt8} (h : why6 l = 0) (l' : List UInt8) (ht : l'.take (40 + two l 4).toNat = l.take (40 + two l 4).toNat) : why6 l' = 0 ∧ parse6 l' = parse6 l := by
  obtain ⟨h1, h2, h3⟩ := why6_zero h
  have t0 := two_range l 4
  obtain ⟨a, ha⟩ := Int.eq_ofNat_of_zero_le (show 0 ≤ 40 + two l 4 by omega)
  have hat : (40 + two l 4).toNat = a := by omega
  rw [hat] at ht
  have hll : a ≤ l'.length := by
    have := congrArg List.length ht
    rw [List.length_take, List.length_take] at this
    omega
  have hb : ∀ i, i < 40 → bt l' i = bt l i := fun i hi => bt_of6 ht (by omega)
  have t4 : two l' 4 = two l 4 := by show bt l' 4 * 256 + bt l' 5 = bt l 4 * 256 + bt l 5; rw [hb 4 (by omega), hb 5 (by omega)]
  have hw : walk6 l' = walk6 l := by
    have e1 : walk6 l' = go6 8 (bt l' 6) ((l'.take (40 + two l' 4).toNat).drop 40) false := by unfold walk6; rw [if_neg (by omega), if_neg (by rw [hb 0 (by omega)]; omega), if_neg (by omega)]
    have e2 : walk6 l = go6 8 (bt l 6) ((l.take (40 + two l 4).toNat).drop 40) false := by unfold walk6; rw [if_neg (by omega), if_neg (by omega), if_neg (by omega)]
    rw [e1, e2, t4, hb 6 (by omega), hat, ht]
  have hw6 : why6 l' = 0 := by unfold why6; rw [hw]; exact h
  have d : ∀ i j, i + j ≤ 40 → (l'.drop i).take j = (l.drop i).take j := fun i j hij => by
    have e : ∀ x : List UInt8, (x.drop i).take j = ((x.take a).drop i).take j := fun x => by
      rw [List.drop_take, List.take_take, Nat.min_eq_left (by omega)]
    rw [e l', e l, ht]
  refine ⟨hw6, ?_⟩
  unfold parse6
  rw [if_pos hw6, if_pos h, hw, d 8 16 (by omega), d 24 16 (by omega)]
theorem inet6_cut (w : World) (A : Option Addr) (l : List UInt8) (c : Nat) (q : Int) (A' : Option Addr) (m : List UInt8) (c' : Nat) (hA : Bs w A l) (hc : l.length ≤ c) (hq : 0 ≤ q ∧ q < 65536) (hA' : Bs w A' m) :
    Ret Try.prog 8 #[.slice A l.length c, .int .u16 q, .slice A' m.length c'] w fun v w' => v = .bool true ∧ More w w' := by
  refine ret_of Try.func8 rfl (by kernel_rfl) (Nat.le_of_ble_eq_true (by kernel_rfl)) ?_
  simp (config := {maxSteps := 1000000}) only [↓zvD, zvU, ↓up_apply, ↓hv_apply, ↓upO_some, ↓upO_none, ↓ev_tmp, ↓ev_const, ↓ev_func, ↓ev_global, init, Nat.reduceEqDiff, Nat.reduceAdd, Nat.reduceMul, Nat.reduceSub, ↓reduceIte, Int.reduceEq, Int.reduceNe, Nat.reduceLeDiff, one, Value.cells, Int.reduceLE, Int.reduceLT, Int.reduceToNat, add_mk, reduceCtorEq, tyF]
  refine call_ok Try.call26 (law10_awake w) ?_
  rintro _ w1 ⟨rfl, hm1⟩
  simp (config := {maxSteps := 1000000}) only [↓zvD, zvU, ↓up_apply, ↓hv_apply, ↓upO_some, ↓upO_none, ↓ev_tmp, ↓ev_const, ↓ev_func, ↓ev_global, init, Nat.reduceEqDiff, Nat.reduceAdd, Nat.reduceMul, Nat.reduceSub, ↓reduceIte, Int.reduceEq, Int.reduceNe, Nat.reduceLeDiff, one, Value.cells, Int.reduceLE, Int.reduceLT, Int.reduceToNat, add_mk, reduceCtorEq, tyF]
  refine ⟨fun h1 => ?_, fun h1 => ⟨fun h2 => ?_, fun h2 => ?_⟩⟩
  · refine call_ok Try.call26 (law10_awake w1) ?_
    rintro _ w2 ⟨rfl, hm2⟩
    simp (config := {maxSteps := 1000000}) only [↓zvD, zvU, ↓up_apply, ↓hv_apply, ↓upO_some, ↓upO_none, ↓ev_tmp, ↓ev_const, ↓ev_func, ↓ev_global, init, Nat.reduceEqDiff, Nat.reduceAdd, Nat.reduceMul, Nat.reduceSub, ↓reduceIte, Int.reduceEq, Int.reduceNe, Nat.reduceLeDiff, one, Value.cells, Int.reduceLE, Int.reduceLT, Int.reduceToNat, add_mk, reduceCtorEq, tyF]
    exact More.trans hm1 hm2
  · refine call_ok Try.call26 (law10_awake w1) ?_
    rintro _ w2 ⟨rfl, hm2⟩
    simp (config := {maxSteps := 1000000}) only [↓zvD, zvU, ↓up_apply, ↓hv_apply, ↓upO_some, ↓upO_none, ↓ev_tmp, ↓ev_const, ↓ev_func, ↓ev_global, init, Nat.reduceEqDiff, Nat.reduceAdd, Nat.reduceMul, Nat.reduceSub, ↓reduceIte, Int.reduceEq, Int.reduceNe, Nat.reduceLeDiff, one, Value.cells, Int.reduceLE, Int.reduceLT, Int.reduceToNat, add_mk, reduceCtorEq, tyF]
    exact More.trans hm1 hm2
  refine call_ok Try.call27 (inet6_parse w1 A l c (hA.more hm1) hc (by omega)) ?_
  rintro _ w2 ⟨A2, c2, rfl, ho2, hm2⟩
  simp (config := {maxSteps := 1000000}) only [↓zvD, zvU, ↓up_apply, ↓hv_apply, ↓upO_some, ↓upO_none, ↓ev_tmp, ↓ev_const, ↓ev_func, ↓ev_global, init, Nat.reduceEqDiff, Nat.reduceAdd, Nat.reduceMul, Nat.reduceSub, ↓reduceIte, Int.reduceEq, Int.reduceNe, Nat.reduceLeDiff, one, Value.cells, Int.reduceLE, Int.reduceLT, Int.reduceToNat, add_mk, reduceCtorEq, tyF, zerNet]
  refine net_var (parse6_fit l) fun w3 hm3 hb3 hs3 => ?_
  have hm13 := (hm1.trans hm2).trans hm3
  have f1 := parse6_fit l
  simp (config := {maxSteps := 1000000}) only [↓zvD, zvU, ↓up_apply, ↓hv_apply, ↓upO_some, ↓upO_none, ↓ev_tmp, ↓ev_const, ↓ev_func, ↓ev_global, init, Nat.reduceEqDiff, Nat.reduceAdd, Nat.reduceMul, Nat.reduceSub, ↓reduceIte, Int.reduceEq, Int.reduceNe, Nat.reduceLeDiff, one, Value.cells, Int.reduceLE, Int.reduceLT, Int.reduceToNat, add_mk, reduceCtorEq, tyF, hb3.cell, NetM.c0, NetM.cBody f1, NetM.cFirst f1]
  refine ⟨fun hw => ?_, fun hw => ?_⟩
  rotate_left
  · have : parse6 l = netNone := by unfold parse6; rw [if_neg hw]
    rw [this]
    exact ⟨fun _ => ⟨fun _ => ⟨rfl, hm13⟩, fun h => absurd rfl h⟩, fun h => absurd rfl h⟩
  obtain ⟨g1, g2, g3⟩ := why6_zero hw
  obtain ⟨a, rfl⟩ := hA.isAt (by omega)
  have hA3 := hA.more hm13
  have c4' := hA3.cellN (i := 4) (by omega)
  have c5' := hA3.cellN (i := 5) (by omega)
  have l4 : (4 : Int) < l.length := by omega
  have l5 : (5 : Int) < l.length := by omega
  have b2 := bt_nonneg l 4
  have b3 := bt_lt l 4
  have b4 := bt_nonneg l 5
  have b5 := bt_lt l 5
  have hab := hA3.blk_lt (by omega)
  have hcutS := fun k => cut6_short hw k
  have hcutM := fun l' => cut6_more hw l'
  have k7 : IntKind.i64.wrap (IntKind.i64.wrap (40 + IntKind.i64.wrap (IntKind.i64.wrap (bt l 4) * 256)) + IntKind.i64.wrap (bt l 5)) = 40 + two l 4 := by
    rw [w64_byte, w64_byte, w64 (x := bt l 4 * 256) (by omega) (by omega), w64 (x := 40 + bt l 4 * 256) (by omega) (by omega), w64 (by omega) (by omega)]
    show _ = 40 + (bt l 4 * 256 + bt l 5)
    omega
  have t0 := two_range l 4
  generalize bt l 4 = x4 at c4' k7
  generalize bt l 5 = x5 at c5' k7
  obtain ⟨all, hall⟩ := Int.eq_ofNat_of_zero_le (show 0 ≤ 40 + two l 4 by omega)
  rw [hall] at k7 hcutS hcutM g3
  rw [Int.toNat_natCast] at hcutM
  have k5 : IntKind.i64.wrap q = q := w64 (by omega) (by omega)
  have k6 : q.tmod (all : Int) = q % (all : Int) := Int.tmod_eq_emod_of_nonneg hq.1
  have h0 : ¬ (all : Int) = 0 := by omega
  have h0n : ¬ all = 0 := by omega
  have hmod := Int.emod_nonneg q h0
  have hmod2 := Int.emod_lt_of_pos q (show 0 < (all : Int) by omega)
  obtain ⟨k, hk⟩ := Int.eq_ofNat_of_zero_le hmod
  rw [hk] at hmod2 k6
  have hka : k < all := by omega
  have hkc : k ≤ c := by omega
  have hk0 : (0 : Int) ≤ k := by omega
  have hac : all ≤ c := by omega
  have ha0 : (0 : Int) ≤ all := by omega
  refine draw_calm mixed (by kernel_rfl) ?_
  simp (config := {maxSteps := 1000000}) only [↓zvD, zvU, ↓zqD, ↓up_apply, ↓hv_apply, ↓upO_some, ↓upO_none, ↓ev_tmp, ↓ev_const, ↓ev_func, ↓ev_global, init, Nat.reduceEqDiff, Nat.reduceAdd, Nat.reduceMul, Nat.reduceSub, ↓reduceIte, Int.reduceEq, Int.reduceNe, Nat.reduceLeDiff, one, Value.cells, Int.reduceLE, Int.reduceLT, Int.reduceToNat, add_mk, reduceCtorEq, tyF, c4', c5', l4, l5, hab, add_block, k7]
  intro w4 hm4
  have hm14 : More w w4 := hm13.trans hm4
  simp (config := {maxSteps := 1000000}) only [↓zvD, zvU, ↓up_apply, ↓hv_apply, ↓upO_some, ↓upO_none, ↓ev_tmp, ↓ev_const, ↓ev_func, ↓ev_global, init, Nat.reduceEqDiff, Nat.reduceAdd, Nat.reduceMul, Nat.reduceSub, ↓reduceIte, Int.reduceEq, Int.reduceNe, Nat.reduceLeDiff, one, Value.cells, Int.reduceLE, Int.reduceLT, Int.reduceToNat, add_mk, reduceCtorEq, tyF, k5, k6, h0, h0n, not_false_eq_true, true_and, hk0, hkc, Int.toNat_natCast]
  have htk : (l.take k).length = k := by rw [List.length_take]; omega
  refine call_ok Try.call27 (by have := inet6_parse w4 (some a) (l.take k) c (Cs.takeB (hA.more hm14) _) (by omega) (by omega); rw [htk] at this; exact this) ?_
  rintro _ w5 ⟨A5, c5, rfl, ho5, hm5⟩
  have hcut := hcutS k (by omega)
  simp (config := {maxSteps := 1000000}) only [↓zvD, zvU, ↓up_apply, ↓hv_apply, ↓upO_some, ↓upO_none, ↓ev_tmp, ↓ev_const, ↓ev_func, ↓ev_global, init, Nat.reduceEqDiff, Nat.reduceAdd, Nat.reduceMul, Nat.reduceSub, ↓reduceIte, Int.reduceEq, Int.reduceNe, Nat.reduceLeDiff, one, Value.cells, Int.reduceLE, Int.reduceLT, Int.reduceToNat, add_mk, reduceCtorEq, tyF, zerNet]
  refine net_var (parse6_fit _) fun w6 hm6 hb6 hs6 => ?_
  have hm16 := (hm14.trans hm5).trans hm6
  refine bslice (z := .int .u8 0) (cells := #[]) Try.underlying23 byteE (by omega) (bcells_list [] (by simp)) ?_
  simp (config := {maxSteps := 1000000}) only [↓zvD, zvU, ↓up_apply, ↓hv_apply, ↓upO_some, ↓upO_none, ↓ev_tmp, ↓ev_const, ↓ev_func, ↓ev_global, init, Nat.reduceEqDiff, Nat.reduceAdd, Nat.reduceMul, Nat.reduceSub, ↓reduceIte, Int.reduceEq, Int.reduceNe, Nat.reduceLeDiff, one, Value.cells, Int.reduceLE, Int.reduceLT, Int.reduceToNat, add_mk, reduceCtorEq, tyF, ha0, hac, Int.toNat_natCast]
  have hall2 : (l.take all).length = all := by rw [List.length_take]; omega
  have hm7 := more_alloc w6 (.cells #[] 5)
  have s7 : (w6.alloc (.cells #[] 5)).heap.size = w6.heap.size + 1 := size_alloc _ _
  have sw := hm16.size
  have own0 := Own.made w6 5 1 #[] 0 rfl (by simp [maxLen]) (B := w6.heap.size) (Nat.le_refl _)
  generalize w6.alloc (.cells #[] 5) = w7 at hm7 s7 own0 ⊢
  have hm17 := hm16.trans hm7
  refine app_own (m := all) Try.underlying23 byteE rfl (by omega) own0 (Cs.takeB (hA.more hm17) all) (by simpa using hall2) (byteV_one _) (by simp only [maxLen]; omega) (by omega) (by omega) ?_
  intro A8 c8 w8 ho8 hg8 _
  have hm68 : More w6 w8 := grown_below own0 hm7 (by omega) hg8
  have hm18 : More w w8 := hm16.trans hm68
  have s8 := hg8.size
  rw [Nat.zero_add, show (#[] : Array Value).toList = [] from rfl, List.nil_append] at ho8
  rw [Nat.zero_add]
  simp (config := {maxSteps := 1000000}) only [↓zvD, zvU, ↓up_apply, ↓hv_apply, ↓upO_some, ↓upO_none, ↓ev_tmp, ↓ev_const, ↓ev_func, ↓ev_global, init, Nat.reduceEqDiff, Nat.reduceAdd, Nat.reduceMul, Nat.reduceSub, ↓reduceIte, Int.reduceEq, Int.reduceNe, Nat.reduceLeDiff, one, Value.cells, Int.reduceLE, Int.reduceLT, Int.reduceToNat, add_mk, reduceCtorEq, tyF]
  refine app_own (m := m.length) (B := w6.heap.size) Try.underlying23 byteE rfl (by omega) ho8 (hA'.more hm18) (by simp) (byteV_one m) (by simp only [maxLen]; omega) (by omega) (by omega) ?_
  intro A9 c9 w9 ho9 hg9 _
  have hm69 : More w6 w9 := grown_below ho8 hm68 (by omega) hg9
  have hm19 : More w w9 := hm16.trans hm69
  rw [← List.map_append] at ho9
  simp (config := {maxSteps := 1000000}) only [↓zvD, zvU, ↓up_apply, ↓hv_apply, ↓upO_some, ↓upO_none, ↓ev_tmp, ↓ev_const, ↓ev_func, ↓ev_global, init, Nat.reduceEqDiff, Nat.reduceAdd, Nat.reduceMul, Nat.reduceSub, ↓reduceIte, Int.reduceEq, Int.reduceNe, Nat.reduceLeDiff, one, Value.cells, Int.reduceLE, Int.reduceLT, Int.reduceToNat, add_mk, reduceCtorEq, tyF]
  have hLen : (l.take all ++ m).length = all + m.length := by rw [List.length_append, hall2]
  refine call_ok Try.call27 (by have := inet6_parse w9 A9 (l.take all ++ m) c9 ho9.cs (by rw [hLen]; exact ho9.le) (by omega); rw [hLen] at this; exact this) ?_
  rintro _ w10 ⟨A10, c10, rfl, ho10, hm10⟩
  have hmore := hcutM (l.take all ++ m) (by rw [List.take_append_of_le_length (by omega), List.take_take, Nat.min_self])
  rw [hmore.2] at ho10
  rw [hmore.1, hmore.2]
  simp (config := {maxSteps := 1000000}) only [↓zvD, zvU, ↓up_apply, ↓hv_apply, ↓upO_some, ↓upO_none, ↓ev_tmp, ↓ev_const, ↓ev_func, ↓ev_global, init, Nat.reduceEqDiff, Nat.reduceAdd, Nat.reduceMul, Nat.reduceSub, ↓reduceIte, Int.reduceEq, Int.reduceNe, Nat.reduceLeDiff, one, Value.cells, Int.reduceLE, Int.reduceLT, Int.reduceToNat, add_mk, reduceCtorEq, tyF, zerNet]
  refine net_var (parse6_fit _) fun w11 hm11 hb11 hs11 => ?_
  have hm6b : More w6 w11 := (hm69.trans hm10).trans hm11
  have hb3' := (((hb3.more hm4).more hm5).more hm6).more hm6b
  have ho2' := (((((ho2.cs.more hm3).more hm4).more hm5).more hm6).more hm6b)
  have r1 := hb3'.all_eq 35 (NetM.cells_len f1 _ _)
  have r2 := hb11.all_eq 35 (NetM.cells_len f1 _ _)
  have hfin : More w w11 := hm16.trans hm6b
  have same := fun K hK => call_ok (K := K) Try.call28 (ref_same w11 _ _ A10 A2 c10 c2 f1 f1 (ho10.cs.more hm11) ho2') hK
  simp (config := {maxSteps := 1000000}) only [↓zvD, zvU, ↓up_apply, ↓hv_apply, ↓upO_some, ↓upO_none, ↓ev_tmp, ↓ev_const, ↓ev_func, ↓ev_global, init, Nat.reduceEqDiff, Nat.reduceAdd, Nat.reduceMul, Nat.reduceSub, ↓reduceIte, Int.reduceEq, Int.reduceNe, Nat.reduceLeDiff, one, Value.cells, Int.reduceLE, Int.reduceLT, Int.reduceToNat, add_mk, reduceCtorEq, tyF, r1, r2]
  refine ⟨fun _ => ?_, fun h => ⟨fun _ => ?_, fun h' => absurd hcut (by omega)⟩⟩
  · refine same _ ?_
    rintro _ w12 ⟨rfl, hm12⟩
    rw [sameNet_self]
    simp (config := {maxSteps := 1000000}) only [↓zvD, zvU, ↓up_apply, ↓hv_apply, ↓upO_some, ↓upO_none, ↓ev_tmp, ↓ev_const, ↓ev_func, ↓ev_global, init, Nat.reduceEqDiff, Nat.reduceAdd, Nat.reduceMul, Nat.reduceSub, ↓reduceIte, Int.reduceEq, Int.reduceNe, Nat.reduceLeDiff, one, Value.cells, Int.reduceLE, Int.reduceLT, Int.reduceToNat, add_mk, reduceCtorEq, tyF]
    exact hfin.trans hm12
  · refine same _ ?_
    rintro _ w12 ⟨rfl, hm12⟩
    rw [sameNet_self]
    simp (config := {maxSteps := 1000000}) only [↓zvD, zvU, ↓up_apply, ↓hv_apply, ↓upO_some, ↓upO_none, ↓ev_tmp, ↓ev_const, ↓ev_func, ↓ev_global, init, Nat.reduceEqDiff, Nat.reduceAdd, Nat.reduceMul, Nat.reduceSub, ↓reduceIte, Int.reduceEq, Int.reduceNe, Nat.reduceLeDiff, one, Value.cells, Int.reduceLE, Int.reduceLT, Int.reduceToNat, add_mk, reduceCtorEq, tyF]
    exact hfin.trans hm12
end Go.Proofs.Ytejigcfdggkhgaa
