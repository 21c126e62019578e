/-
  Texts that the law stands on, part 12.
-/
import Derived.Test.YtofhbonnojooeaaGreatKPoliceBoxed11
namespace Go.Proofs.YtofhbonnojooeaaGreat
open Go Go.RowKit Go.Proofs.RV
set_option linter.unusedSimpArgs false
set_option linter.unusedVariables false
set_option maxRecDepth 10000
set_option maxHeartbeats 4000000
theorem mem_allK {M M2 : List Nat} (hs : M2.all (M.contains ·) = true) {s : Nat} (h : s ∈ M2) : s ∈ M := by simpa using List.all_eq_true.1 hs s h
def fallM (key : List UInt8) (f : FlowM) (lv : UInt8) (n : Int) : Int := (sipM key (keyM f ++ [lv])).tmod n
theorem fallM_range (key : List UInt8) (f : FlowM) (lv : UInt8) (n : Int) (hn : 1 ≤ n) : 0 ≤ fallM key f lv n ∧ fallM key f lv n < n := by
  unfold fallM
  rw [Int.tmod_eq_emod_of_nonneg (sipM_range _ _).1]
  exact ⟨Int.emod_nonneg _ (by omega), Int.emod_lt_of_pos _ (by omega)⟩
theorem keyM_le (f : FlowM) : (keyM f).length ≤ 100 := by
  unfold keyM adrN
  simp only [List.length_append, List.length_take, numB_len, List.length_cons, List.length_nil]
  split <;> omega
def PartsF (a b : List UInt8) (v : Value) (w : World) : Prop := ∃ q A c A' c', v = .slice (some ⟨q, 0, none⟩) 2 2 ∧ Cs w (some ⟨q, 0, none⟩) [.slice A a.length c, .slice A' b.length c'] ∧ Bs w A a ∧ Bs w A' b
theorem keepsP (a b : List UInt8) (v : Value) (x y : World) (h : More x y) (k : PartsF a b v x) : PartsF a b v y := by
  obtain ⟨q, A, c, A', c', h1, h2, h3, h4⟩ := k
  exact ⟨q, A, c, A', c', h1, h2.more h, h3.more h, h4.more h⟩
theorem bytesE : ElemT Tryz.prog 348 (.slice none 0 0) 1 24 := by unfold ElemT; kernel_rfl
theorem keyed_fall (w : World) (key : List UInt8) (f : FlowM) (lv : UInt8) (n : Int) (hk : key.length = 16) (hf : f.Fit) (hn : 1 ≤ n ∧ n ≤ 4096) :
    Ret Tryz.prog 231 #[.agg (key.map byteV).toArray, .agg f.cells.toArray, byteV lv, .int .i64 n] w fun v w' => v = .int .i64 (fallM key f lv n) ∧ More w w' := by
  refine ret_of Tryz.func231 rfl (by kernel_rfl) (Nat.le_of_ble_eq_true (by kernel_rfl)) ?_
  have n1 : ¬ n < 1 := by omega
  have hsr := sipM_range key (keyM f ++ [lv])
  have hfr := fallM_range key f lv n hn.1
  have e1 : IntKind.u64.wrap n = n := wu64 (by omega) (by omega)
  have e2 : IntKind.u64.wrap (fallM key f lv n) = fallM key f lv n := wu64 (by omega) (by omega)
  have e3 : IntKind.i64.wrap (fallM key f lv n) = fallM key f lv n := w64 (by omega) (by omega)
  have e4 : ¬ n = 0 := by omega
  have e5 : (sipM key (keyM f ++ [lv])).tmod n = fallM key f lv n := rfl
  have hm1 := more_alloc w (.cells (key.map byteV).toArray 24)
  have hb1 := Blk.new w 24 (key.map byteV).toArray
  simp -implicitDefEqProofs (maxSteps := 1000000) only [↓zvN, zvU, ↓zvE, zvM, init, one, Value.cells, simprocAttr, tyF, n1]
  obtain ⟨w1, hw1⟩ : ∃ w1, w.alloc (.cells (key.map byteV).toArray 24) = w1 := ⟨_, rfl⟩
  rw [hw1] at hm1 hb1 ⊢
  clear hw1
  rw [List.toList_toArray] at hb1
  have hm2 := more_alloc w1 (.cells f.cells.toArray 34)
  have hb2 := Blk.new w1 34 f.cells.toArray
  obtain ⟨w2, hw2⟩ : ∃ w2, w1.alloc (.cells f.cells.toArray 34) = w2 := ⟨_, rfl⟩
  rw [hw2] at hm2 hb2 ⊢
  clear hw2
  rw [List.toList_toArray] at hb2
  obtain ⟨y, hy⟩ : ∃ y, w.heap.size = y := ⟨_, rfl⟩
  rw [hy] at hb1 ⊢
  obtain ⟨z, hz⟩ : ∃ z, w1.heap.size = z := ⟨_, rfl⟩
  rw [hz] at hb2
  try rw [hz]
  have hb12 := hb1.more hm2
  have l1 := hb12.all_eq 16 (by simp [hk])
  have l2 := hb2.all_eq 36 (FlowM.cells_len hf)
  have lt1 := hb12.lt
  have lt2 := hb2.lt
  try simp -implicitDefEqProofs (maxSteps := 1000000) only [↓zvN, zvU, ↓zvE, zvM, init, one, Value.cells, simprocAttr, tyF, n1]
  refine draw_seen 9 [[], [], [1], [], [3], [1, 2, 3, 4], [0, 1, 2, 3, 4, 5], [], [7], [0, 1, 2, 3, 4, 5, 6, 7, 8], [0, 1, 2, 3, 4, 5, 6, 7, 8, 9], [0, 1, 2, 3, 4, 5, 6, 7, 8, 9, 10]] (RV.look [(2, BsF (keyM f)), (4, BsF [lv]), (5, PartsF (keyM f) [lv]), (6, IsV (.int .u64 (sipM key (keyM f ++ [lv]))))]) mixed (by kernel_rfl) (by kernel_rfl) (look_keeps _ (by
    intro z hz
    simp only [List.mem_cons, List.not_mem_nil, or_false] at hz
    rcases hz with rfl | rfl | rfl | rfl
    · exact keepsB _
    · exact keepsB _
    · exact keepsP _ _
    · exact keepsV _)) ?_
  simp -implicitDefEqProofs (maxSteps := 1000000) only [↓zvN, zvU, ↓zqD, ↓zvE, zvM, init, one, Value.cells, simprocAttr, tyF, l1, l2, lt1, lt2]
  refine ⟨fun w3 hm3 => ?_, ?_⟩
  · refine call_ok Tryz.call248 (frame_key w3 f hf) ?_
    rintro _ w4 ⟨A, c, rfl, hO, hm4⟩
    simp -implicitDefEqProofs (maxSteps := 1000000) only [↓zvN, zvU, ↓zqD, ↓zvE, zvM, init, one, Value.cells, simprocAttr, tyF]
    exact ⟨hm4, A, c, rfl, hO.cs⟩
  rintro _ ⟨w3, hm3, A, c, rfl, hBs⟩
  simp -implicitDefEqProofs (maxSteps := 1000000) only [↓zvN, zvU, ↓zqD, ↓zvE, zvM, init, one, Value.cells, simprocAttr, tyF, l1, l2, lt1, lt2]
  refine ⟨fun w4 hm4 _ => ?_, ?_⟩
  · refine bslice (z := .int .u8 0) (cells := #[byteV lv]) Tryz.underlying348 byteE (by omega) (by have := bcells_list (z := .int .u8 0) [byteV lv] (by intro v hv; simp at hv; subst hv; rfl); exact this) ?_
    have hb := Blk.new w4 5 #[byteV lv]
    simp -implicitDefEqProofs (maxSteps := 1000000) only [↓zvN, zvU, ↓zqD, ↓zvE, zvM, init, one, Value.cells, simprocAttr, tyF]
    exact ⟨more_alloc _ _, _, _, rfl, hb.cs⟩
  rintro _ ⟨w4, hm4, _, A', c', rfl, hBs'⟩
  simp -implicitDefEqProofs (maxSteps := 1000000) only [↓zvN, zvU, ↓zqD, ↓zvE, zvM, init, one, Value.cells, simprocAttr, tyF, l1, l2, lt1, lt2]
  refine ⟨fun w5 hm5 hx => ?_, ?_⟩
  · obtain ⟨⟨A1, c1, e6, hA1⟩, A2, c2, e7, hA2⟩ := hx
    cases e6
    cases e7
    refine bslice (z := .slice none 0 0) (cells := #[.slice A (keyM f).length c, .slice A' [lv].length c']) Tryz.underlying366 bytesE (by omega) (by have := bcells_list (z := .slice none 0 0) [.slice A (keyM f).length c, .slice A' [lv].length c'] (by intro v hv; simp at hv; rcases hv with rfl | rfl <;> rfl); exact this) ?_
    have hb := Blk.new w5 348 #[.slice A (keyM f).length c, .slice A' [lv].length c']
    have hm := more_alloc w5 (.cells #[.slice A (keyM f).length c, .slice A' [lv].length c'] 348)
    simp -implicitDefEqProofs (maxSteps := 1000000) only [↓zvN, zvU, ↓zqD, ↓zvE, zvM, init, one, Value.cells, simprocAttr, tyF]
    exact ⟨hm, _, A, c, A', c', rfl, hb.cs, hA1.more hm, hA2.more hm⟩
  rintro _ ⟨w5, hm5, _, q, B, d, B', d', rfl, hq, hB, hB'⟩
  simp -implicitDefEqProofs (maxSteps := 1000000) only [↓zvN, zvU, ↓zqD, ↓zvE, zvM, init, one, Value.cells, simprocAttr, tyF, l1, l2, lt1, lt2]
  refine ⟨fun w6 hm6 hx => ?_, ?_⟩
  · obtain ⟨_, _, q', A1, c1, A2, c2, e6, hC, hA1, hA2⟩ := hx
    cases e6
    have hp : (keyM f ++ [lv]) = joinP [⟨A1, keyM f, c1⟩, ⟨A2, [lv], c2⟩] := by simp [joinP]
    have hkl := keyM_le f
    refine call_ok Tryz.call227 (sip_sum w6 key (some ⟨q, 0, none⟩) [⟨A1, keyM f, c1⟩, ⟨A2, [lv], c2⟩] 2 hk hC (by
      intro p hp
      simp only [List.mem_cons, List.not_mem_nil, or_false] at hp
      rcases hp with rfl | rfl
      · exact hA1
      · exact hA2) (by rw [← hp]; simp; omega) (by simp)) ?_
    rintro _ w7 ⟨rfl, hm7⟩
    rw [← hp]
    simp -implicitDefEqProofs (maxSteps := 1000000) only [↓zvN, zvU, ↓zqD, ↓zvE, zvM, init, one, Value.cells, simprocAttr, tyF]
    exact ⟨hm7, rfl⟩
  rintro _ ⟨w6, hm6, _, rfl⟩
  simp -implicitDefEqProofs (maxSteps := 1000000) only [↓zvN, zvU, ↓zqD, ↓zvE, zvM, init, one, Value.cells, simprocAttr, tyF, l1, l2, lt1, lt2, e1, e4, e5, e2, e3]
  exact fun w7 hm7 _ => (hm1.trans hm2).trans hm7
theorem keyed_bucket (w : World) (key : List UInt8) (f : FlowM) (n : Int) (hk : key.length = 16) (hf : f.Fit) (hn : 1 ≤ n ∧ n ≤ 4096) :
    Ret Tryz.prog 218 #[.agg (key.map byteV).toArray, .agg f.cells.toArray, .int .i64 n] w fun v w' => v = .int .i64 (fallM key f 0 n) ∧ More w w' := by
  refine ret_of Tryz.func218 rfl (by kernel_rfl) (Nat.le_of_ble_eq_true (by kernel_rfl)) ?_
  have hm1 := more_alloc w (.cells (key.map byteV).toArray 24)
  have hb1 := Blk.new w 24 (key.map byteV).toArray
  simp -implicitDefEqProofs (maxSteps := 1000000) only [↓zvN, zvU, ↓zvE, zvM, init, one, Value.cells, simprocAttr, tyF]
  obtain ⟨w1, hw1⟩ : ∃ w1, w.alloc (.cells (key.map byteV).toArray 24) = w1 := ⟨_, rfl⟩
  have hw1' := hw1
  rw [hw1] at hm1 hb1 ⊢
  clear hw1
  rw [List.toList_toArray] at hb1
  have hm2 := more_alloc w1 (.cells f.cells.toArray 34)
  have hb2 := Blk.new w1 34 f.cells.toArray
  obtain ⟨w2, hw2⟩ : ∃ w2, w1.alloc (.cells f.cells.toArray 34) = w2 := ⟨_, rfl⟩
  rw [hw2] at hm2 hb2 ⊢
  clear hw2
  rw [List.toList_toArray] at hb2
  obtain ⟨y, hy⟩ : ∃ y, w.heap.size = y := ⟨_, rfl⟩
  rw [hy] at hb1 ⊢
  obtain ⟨z, hz⟩ : ∃ z, w1.heap.size = z := ⟨_, rfl⟩
  rw [hz] at hb2
  have hz0 := hz
  rw [← hw1'] at hz
  clear hw1'
  have hb12 := hb1.more hm2
  have l1 : ∀ {w' : World}, More w2 w' → ∀ K : Value → Prop, ldRow 16 ⟨y, 0, none⟩ w' K = K (.agg (key.map byteV).toArray) := fun h K => (hb12.more h).all_eq 16 (by simp [hk]) K
  have l2 : ∀ {w' : World}, More w2 w' → ∀ K : Value → Prop, ldRow 36 ⟨z, 0, none⟩ w' K = K (.agg f.cells.toArray) := fun h K => (hb2.more h).all_eq 36 (FlowM.cells_len hf) K
  simp -implicitDefEqProofs (maxSteps := 1000000) only [↓zvN, zvU, ↓zvE, zvM, init, one, Value.cells, simprocAttr, tyF, hz, l1 (More.refl _), l2 (More.refl _)]
  refine call_ok Tryz.call231 (keyed_fall w2 key f 0 n hk hf hn) ?_
  rintro _ w3 ⟨rfl, hm3⟩
  simp -implicitDefEqProofs (maxSteps := 1000000) only [↓zvN, zvU, ↓zvE, zvM, init, one, Value.cells, simprocAttr, tyF]
  exact (hm1.trans hm2).trans hm3
def binsM (key : List UInt8) (f : FlowM) (levels n : Int) : List Int := (List.range (max 0 (min levels 4)).toNat).map fun l => fallM key f (UInt8.ofNat (l + 1)) n
def BinsJ (B0 : Nat) (key : List UInt8) (f : FlowM) (L : Nat) (n : Int) (w0 : World) (v9 v14 : Value) (w : World) : Prop := ∃ (i : Nat) (A : Option Addr) (c : Nat), v14 = .int .i64 i ∧ i ≤ L ∧ v9 = .slice A i c ∧ Own w B0 3 1 A i c (ints ((List.range i).map fun l => fallM key f (UInt8.ofNat (l + 1)) n)) ∧ More w0 w
theorem keyed_bins (w : World) (key : List UInt8) (f : FlowM) (levels n : Int) (hk : key.length = 16) (hf : f.Fit) (hn : 1 ≤ n ∧ n ≤ 4096) (hlv : 1 ≤ levels ∧ levels ≤ 4) :
    Ret Tryz.prog 214 #[.agg (key.map byteV).toArray, .agg f.cells.toArray, .int .i64 levels, .int .i64 n] w fun v w' => ∃ A c, v = .slice A (binsM key f levels n).length c ∧ Cs w' A (ints (binsM key f levels n)) ∧ (∀ a, A = some a → w.heap.size ≤ a.block) ∧ More w w' := by
  refine ret_of Tryz.func214 rfl (by kernel_rfl) (Nat.le_of_ble_eq_true (by kernel_rfl)) ?_
  obtain ⟨L, rfl⟩ := Int.eq_ofNat_of_zero_le (show 0 ≤ levels by omega)
  have m1 : ¬ (4 : Int) < (L : Int) := by omega
  have m2 : (0 : Int) < (L : Int) := by omega
  have hbm : binsM key f L n = (List.range L).map fun l => fallM key f (UInt8.ofNat (l + 1)) n := by
    unfold binsM
    rw [show (max 0 (min (L : Int) 4)).toNat = L by omega]
  have mn : (if (4 : Int) < (L : Int) then (4 : Int) else (L : Int)) = L := if_neg m1
  have mx : (if (0 : Int) < (L : Int) then (L : Int) else 0) = L := if_pos m2
  have hm1 := more_alloc w (.cells (key.map byteV).toArray 24)
  have hb1 := Blk.new w 24 (key.map byteV).toArray
  simp -implicitDefEqProofs (maxSteps := 1000000) only [↓zvN, zvU, ↓zvE, zvM, init, one, Value.cells, simprocAttr, tyF]
  obtain ⟨w1, hw1⟩ : ∃ w1, w.alloc (.cells (key.map byteV).toArray 24) = w1 := ⟨_, rfl⟩
  have hw1' := hw1
  rw [hw1] at hm1 hb1 ⊢
  clear hw1
  rw [List.toList_toArray] at hb1
  have hm2 := more_alloc w1 (.cells f.cells.toArray 34)
  have hb2 := Blk.new w1 34 f.cells.toArray
  obtain ⟨w2, hw2⟩ : ∃ w2, w1.alloc (.cells f.cells.toArray 34) = w2 := ⟨_, rfl⟩
  rw [hw2] at hm2 hb2 ⊢
  clear hw2
  rw [List.toList_toArray] at hb2
  obtain ⟨y, hy⟩ : ∃ y, w.heap.size = y := ⟨_, rfl⟩
  rw [hy] at hb1 ⊢
  obtain ⟨z, hz⟩ : ∃ z, w1.heap.size = z := ⟨_, rfl⟩
  rw [hz] at hb2
  have hz0 := hz
  rw [← hw1'] at hz
  clear hw1'
  have hb12 := hb1.more hm2
  have l1 : ∀ {w' : World}, More w2 w' → ∀ K : Value → Prop, ldRow 16 ⟨y, 0, none⟩ w' K = K (.agg (key.map byteV).toArray) := fun h K => (hb12.more h).all_eq 16 (by simp [hk]) K
  have l2 : ∀ {w' : World}, More w2 w' → ∀ K : Value → Prop, ldRow 36 ⟨z, 0, none⟩ w' K = K (.agg f.cells.toArray) := fun h K => (hb2.more h).all_eq 36 (FlowM.cells_len hf) K
  have hsz : w.heap.size ≤ w2.heap.size := (hm1.trans hm2).size
  refine loop_p (9 :: 10 :: List.range' 14 14) (fun e w' => BinsJ w2.heap.size key f L n w2 (e 9) (e 14) w') (fun e _ => L - (numOf (e 14)).toNat) ?_ ?_
  · exact ⟨0, none, 0, by simp only [hv_apply, up_apply, upO_some, upO_none, init, List.mem_cons, List.mem_range'_1, true_and, and_true, and_false, false_and, Nat.reduceLT, Nat.reduceLeDiff, Nat.reduceAdd, true_or, or_true, if_true, if_false, ↓reduceIte, Nat.reduceEqDiff, false_or, or_false, List.not_mem_nil, List.getElem?_cons_zero, List.getElem?_cons_succ, Option.getD_some] <;> rfl, by omega, by simp only [hv_apply, up_apply, upO_some, upO_none, init, List.mem_cons, List.mem_range'_1, true_and, and_true, and_false, false_and, Nat.reduceLT, Nat.reduceLeDiff, Nat.reduceAdd, true_or, or_true, if_true, if_false, ↓reduceIte, Nat.reduceEqDiff, false_or, or_false, List.not_mem_nil, List.getElem?_cons_zero, List.getElem?_cons_succ, Option.getD_some] <;> rfl, Own.nil _ _ _ _, More.refl _⟩
  rintro v w3 ⟨i, A, c, h14, hi, h9, ho, hm3⟩
  simp only [hv_apply, up_apply, upO_some, upO_none, init, List.mem_cons, List.mem_range'_1, true_and, and_true, and_false, false_and, Nat.reduceLT, Nat.reduceLeDiff, Nat.reduceAdd, true_or, or_true, if_true, if_false, ↓reduceIte, Nat.reduceEqDiff, false_or, or_false, List.not_mem_nil, List.getElem?_cons_zero, List.getElem?_cons_succ, Option.getD_some] at h14 h9
  have ei : IntKind.i64.wrap ((i : Int) + 1) = ((i + 1 : Nat) : Int) := w64 (by omega) (by omega)
  have e8 : IntKind.u8.wrap ((i + 1 : Nat) : Int) = ((i + 1 : Nat) : Int) := wu8 (by omega) (by omega)
  simp -implicitDefEqProofs (maxSteps := 1000000) only [↓zvN, zvU, ↓zvE, zvM, init, one, Value.cells, simprocAttr, tyF, h14, mn, mx]
  refine ⟨fun c9 => ?_, fun c9 => ?_⟩
  · have hbv : byteV (UInt8.ofNat (i + 1)) = .int .u8 ((i + 1 : Nat) : Int) := by
      unfold byteV
      rw [UInt8.toNat_ofNat', Nat.mod_eq_of_lt (by omega)]
    have kf := keyed_fall w3 key f (UInt8.ofNat (i + 1)) n hk hf hn
    rw [hbv] at kf
    simp -implicitDefEqProofs (maxSteps := 1000000) only [↓zvN, zvU, ↓zvE, zvM, init, one, Value.cells, simprocAttr, tyF, h14, h9, hz, hz0, l1 hm3, l2 hm3, ei, e8]
    refine call_ok Tryz.call231 kf ?_
    rintro _ w4 ⟨rfl, hm4⟩
    obtain ⟨x, hx⟩ : ∃ x, fallM key f (UInt8.ofNat (i + 1)) n = x := ⟨_, rfl⟩
    rw [hx]
    simp -implicitDefEqProofs (maxSteps := 1000000) only [↓zvN, zvU, ↓zvE, zvM, init, one, Value.cells, simprocAttr, tyF]
    refine bslice (z := .int .i64 0) (cells := #[.int .i64 x]) Tryz.underlying157 intE (by omega) (by have := bcells_list (z := .int .i64 0) [.int .i64 x] (by intro v hv; simp at hv; subst hv; rfl); exact this) ?_
    have hm5 := more_alloc w4 (.cells #[.int .i64 x] 3)
    have hb5 := Blk.new w4 3 #[.int .i64 x]
    obtain ⟨w5, hw5⟩ : ∃ w5, w4.alloc (.cells #[.int .i64 x] 3) = w5 := ⟨_, rfl⟩
    rw [hw5] at hm5 hb5 ⊢
    clear hw5
    have s3 := hm3.size
    have s4 := hm4.size
    have s5 := hm5.size
    simp -implicitDefEqProofs (maxSteps := 1000000) only [↓zvN, zvU, ↓zvE, zvM, init, one, Value.cells, simprocAttr, tyF, h9]
    refine app_mod (B := w2.heap.size) (m := 1) (news := [.int .i64 x]) Tryz.underlying157 intE rfl (by omega) ((ho.more hm4).more hm5) hb5.cs rfl (by intro u hu; simp at hu; subst hu; rfl) (by simp only [maxLen]; omega) (by omega) (by omega) ?_
    intro A6 c6 w6 ho6 hmd6 _
    simp -implicitDefEqProofs (maxSteps := 1000000) only [↓zvN, zvU, ↓zvE, zvM, init, one, Value.cells, simprocAttr, tyF, h14, ei]
    refine ⟨⟨?_, i + 1, A6, c6, rfl, by omega, rfl, ?_, Mod.more ((hm3.trans hm4).trans hm5) hmd6 (fun j hj h => by have := (((ho.more hm4).more hm5).atB_ge h).1; omega)⟩, by simp only [numOf]; omega⟩
    · repeat (first | exact Same.hv _ _ _ | refine Same.hv2 (fun s hs => mem_allK (by decide) hs) ?_ | refine Same.up (by simp) ?_)
    · rw [List.range_succ, List.map_append]
      unfold ints at ho6 ⊢
      rw [List.map_append]
      simp only [List.map_cons, List.map_nil, hx]
      exact ho6
  obtain rfl : i = L := by omega
  simp -implicitDefEqProofs (maxSteps := 1000000) only [↓zvN, zvU, ↓zvE, zvM, init, one, Value.cells, simprocAttr, tyF, h9]
  rw [hbm]
  refine ⟨A, c, by simp, ho.cs, fun a ha => ?_, (hm1.trans hm2).trans hm3⟩
  have := (ho.atB_ge ⟨a, ha, rfl⟩).1
  omega

def bump (s : List Int) (k : Nat) (n : Int) : List Int := s.set k (addM (s.getD k 0) n)
def Pair2 (a b : Int) (v : Value) (w : World) : Prop := ∃ q, v = .slice (some ⟨q, 0, none⟩) 2 2 ∧ Blk w q 2 (two2 a b)
def IsInt (n : Int) (v : Value) (_ : World) : Prop := v = .int .i64 n
theorem gens_at {m : GensM} (h0 : m.k0.length = 16) (h1 : m.k1.length = 16) (k : Nat) : m.cells[33 + k]? = [.int .i64 m.old, .bool m.moving, .int .i64 m.moved, .int .i64 m.epoch][k]? := by
  unfold GensM.cells
  rw [show 33 + k = (16 + (16 + k)) + 1 by omega, List.getElem?_cons_succ, List.getElem?_append_right (by simp [h0]), List.length_map, h0, Nat.add_sub_cancel_left, List.getElem?_append_right (by simp [h1]), List.length_map, h1, Nat.add_sub_cancel_left]
structure GensM.Ok (m : GensM) : Prop where
  l0 : m.k0.length = 16
  l1 : m.k1.length = 16
  b : 1 ≤ m.buckets ∧ m.buckets ≤ 64
  o : m.old = 0 ∨ m.old = 1
  mv : 0 ≤ m.moved ∧ m.moved ≤ m.buckets
  mm : m.moving = true → m.moved < m.buckets
def GensM.key (m : GensM) (gen : Int) : List UInt8 := if gen = 0 then m.k0 else m.k1
theorem GensM.key_len {m : GensM} (h : m.Ok) (gen : Int) : (m.key gen).length = 16 := by unfold GensM.key; split; exact h.l0; exact h.l1
def GensM.classM (m : GensM) (gen : Int) (f : FlowM) : Int := gen * m.buckets + fallM (m.key gen) f 0 m.buckets
theorem GensM.classM_range {m : GensM} (h : m.Ok) {gen : Int} (hg : gen = 0 ∨ gen = 1) (f : FlowM) : gen * m.buckets ≤ m.classM gen f ∧ m.classM gen f < gen * m.buckets + m.buckets := by
  have := fallM_range (m.key gen) f 0 m.buckets h.b.1
  unfold GensM.classM
  omega
def GensM.whereM (m : GensM) (f : FlowM) : Int × Int :=
  if m.moving = false ∨ m.moved ≤ m.classM m.old f - m.old * m.buckets then (m.old, m.classM m.old f) else (1 - m.old, m.classM (1 - m.old) f)
theorem gens_c0 {w : World} {g : Nat} {m : GensM} (hb : Blk w g 220 m.cells) : w.cell? ⟨g, 0, none⟩ = some (.int .i64 m.buckets) := by rw [hb.cell]; rfl
theorem gens_c33 {w : World} {g : Nat} {m : GensM} (h : m.Ok) (hb : Blk w g 220 m.cells) : w.cell? ⟨g, 33, none⟩ = some (.int .i64 m.old) := by rw [hb.cell]; exact gens_at h.l0 h.l1 0
theorem gens_c34 {w : World} {g : Nat} {m : GensM} (h : m.Ok) (hb : Blk w g 220 m.cells) : w.cell? ⟨g, 34, none⟩ = some (.bool m.moving) := by rw [hb.cell]; exact gens_at h.l0 h.l1 1
theorem gens_c35 {w : World} {g : Nat} {m : GensM} (h : m.Ok) (hb : Blk w g 220 m.cells) : w.cell? ⟨g, 35, none⟩ = some (.int .i64 m.moved) := by rw [hb.cell]; exact gens_at h.l0 h.l1 2
theorem gens_len {m : GensM} (h : m.Ok) : m.cells.length = 37 := by simp [GensM.cells, h.l0, h.l1]
theorem gens_k0 {w : World} {g : Nat} {m : GensM} (h : m.Ok) (hb : Blk w g 220 m.cells) (K : Value → Prop) : ldRow 16 ⟨g, 1, none⟩ w K = K (.agg (m.k0.map byteV).toArray) := by
  rw [hb.row_eq 1 16 (by rw [gens_len h]; decide)]
  congr 2
  unfold GensM.cells
  rw [List.drop_succ_cons, List.drop_zero, List.take_append_of_le_length (by simp [h.l0]), List.take_of_length_le (by simp [h.l0])]
theorem gens_k1 {w : World} {g : Nat} {m : GensM} (h : m.Ok) (hb : Blk w g 220 m.cells) (K : Value → Prop) : ldRow 16 ⟨g, 17, none⟩ w K = K (.agg (m.k1.map byteV).toArray) := by
  rw [hb.row_eq 17 16 (by rw [gens_len h]; decide)]
  congr 2
  unfold GensM.cells
  rw [show (17 : Nat) = 16 + 1 from rfl, List.drop_succ_cons, List.drop_append, List.length_map, h.l0, List.drop_eq_nil_of_le (by simp [h.l0]), Nat.sub_self, List.drop_zero, List.nil_append, List.take_append_of_le_length (by simp [h.l1]), List.take_of_length_le (by simp [h.l1])]
theorem gens_class (w : World) (g : Nat) (m : GensM) (h : m.Ok) (hb : Blk w g 220 m.cells) (gen : Int) (hg : gen = 0 ∨ gen = 1) (f : FlowM) (hf : f.Fit) :
    Ret Tryz.prog 166 #[.pointer (some ⟨g, 0, none⟩), .int .i64 gen, .agg f.cells.toArray] w fun v w' => v = .int .i64 (m.classM gen f) ∧ More w w' := by
  refine ret_of Tryz.func166 rfl (by kernel_rfl) (Nat.le_of_ble_eq_true (by kernel_rfl)) ?_
  have hbk := h.b
  have hfr := fallM_range (m.key gen) f 0 m.buckets hbk.1
  have e1 : IntKind.i64.wrap (gen * m.buckets) = gen * m.buckets := by rcases hg with rfl | rfl <;> exact w64 (by omega) (by omega)
  have e2 : IntKind.i64.wrap (gen * m.buckets + fallM (m.key gen) f 0 m.buckets) = m.classM gen f := by unfold GensM.classM; rcases hg with rfl | rfl <;> exact w64 (by omega) (by omega)
  have g0 : 0 ≤ gen := by omega
  have g1 : gen < 2 := by omega
  have hm1 := more_alloc w (.cells f.cells.toArray 34)
  have hb1 := Blk.new w 34 f.cells.toArray
  simp -implicitDefEqProofs (maxSteps := 1000000) only [↓zvN, zvU, ↓zvE, zvM, init, one, Value.cells, simprocAttr, tyF]
  obtain ⟨w1, hw1⟩ : ∃ w1, w.alloc (.cells f.cells.toArray 34) = w1 := ⟨_, rfl⟩
  rw [hw1] at hm1 hb1 ⊢
  clear hw1
  rw [List.toList_toArray] at hb1
  obtain ⟨z, hz⟩ : ∃ z, w.heap.size = z := ⟨_, rfl⟩
  rw [hz] at hb1 ⊢
  have hg1 := hb.more hm1
  have lf := hb1.all_eq 36 (FlowM.cells_len hf)
  have lz := hb1.lt
  have lg := hg1.lt
  have hkl := GensM.key_len h gen
  have lk : ∀ K : Value → Prop, ldRow 16 ⟨g, 1 + gen.toNat * 16, none⟩ w1 K = K (.agg ((m.key gen).map byteV).toArray) := fun K => by
    rcases hg with rfl | rfl
    · exact gens_k0 h hg1 K
    · exact gens_k1 h hg1 K
  refine draw_seen 18 [[], [], [1], [1, 2], [1, 2, 3], [0, 1, 2, 3, 4], [], [], [6], [6, 8], [6, 7, 8, 9], [6, 7, 8, 9, 10], [], [], [13], [13, 14], [13, 14, 15], [6, 7, 8, 9, 10, 11, 12, 13, 14, 15, 16], [0, 1, 2, 3, 4, 5, 6, 7, 8, 9, 10, 11, 12, 13, 14, 15, 16, 17], [0, 1, 2, 3, 4, 5, 6, 7, 8, 9, 10, 11, 12, 13, 14, 15, 16, 17, 18]] (RV.look [(17, IsV (.int .i64 (fallM (m.key gen) f 0 m.buckets)))]) mixed (by kernel_rfl) (by kernel_rfl) (look_keeps _ (by
    intro z hz
    simp only [List.mem_cons, List.not_mem_nil, or_false] at hz
    rcases hz with rfl
    exact keepsV _)) ?_
  simp -implicitDefEqProofs (maxSteps := 1000000) only [↓zvN, zvU, ↓zqD, ↓zvE, zvM, init, one, Value.cells, simprocAttr, tyF, gens_c0 hg1, lf, lk, lz, lg, g0, g1, e1]
  refine ⟨fun w2 hm2 => ?_, ?_⟩
  · refine call_ok Tryz.call218 (keyed_bucket w2 (m.key gen) f m.buckets hkl hf (by omega)) ?_
    rintro _ w3 ⟨rfl, hm3⟩
    simp -implicitDefEqProofs (maxSteps := 1000000) only [↓zvN, zvU, ↓zqD, ↓zvE, zvM, init, one, Value.cells, simprocAttr, tyF]
    exact ⟨hm3, rfl⟩
  rintro _ ⟨w2, hm2, rfl⟩
  simp -implicitDefEqProofs (maxSteps := 1000000) only [↓zvN, zvU, ↓zqD, ↓zvE, zvM, init, one, Value.cells, simprocAttr, tyF, gens_c0 hg1, lf, lk, lz, lg, g0, g1, e1, e2]
  intro w3 hm3 _
  try simp -implicitDefEqProofs (maxSteps := 1000000) only [↓zvN, zvU, ↓zvE, zvM, init, one, Value.cells, simprocAttr, tyF, p_nil]
  exact hm1.trans hm3
theorem gens_where (w : World) (g : Nat) (m : GensM) (h : m.Ok) (hb : Blk w g 220 m.cells) (f : FlowM) (hf : f.Fit) :
    Ret Tryz.prog 82 #[.pointer (some ⟨g, 0, none⟩), .agg f.cells.toArray] w fun v w' => v = .tuple #[.int .i64 (m.whereM f).1, .int .i64 (m.whereM f).2] ∧ More w w' := by
  refine ret_of Tryz.func82 rfl (by kernel_rfl) (Nat.le_of_ble_eq_true (by kernel_rfl)) ?_
  have hbk := h.b
  have hmv := h.mv
  have ho := h.o
  have hcr := GensM.classM_range h ho f
  have ho' : 1 - m.old = 0 ∨ 1 - m.old = 1 := by omega
  have e1 : IntKind.i64.wrap (m.old * m.buckets) = m.old * m.buckets := by rcases ho with e | e <;> rw [e] <;> exact w64 (by omega) (by omega)
  have e2 : IntKind.i64.wrap (m.classM m.old f - m.old * m.buckets) = m.classM m.old f - m.old * m.buckets := w64 (by omega) (by omega)
  have e3 : IntKind.i64.wrap (1 - m.old) = 1 - m.old := w64 (by omega) (by omega)
  have hm1 := more_alloc w (.cells f.cells.toArray 34)
  have hb1 := Blk.new w 34 f.cells.toArray
  simp -implicitDefEqProofs (maxSteps := 1000000) only [↓zvN, zvU, ↓zvE, zvM, init, one, Value.cells, simprocAttr, tyF]
  obtain ⟨w1, hw1⟩ : ∃ w1, w.alloc (.cells f.cells.toArray 34) = w1 := ⟨_, rfl⟩
  rw [hw1] at hm1 hb1 ⊢
  clear hw1
  rw [List.toList_toArray] at hb1
  obtain ⟨z, hz⟩ : ∃ z, w.heap.size = z := ⟨_, rfl⟩
  rw [hz] at hb1 ⊢
  have hg1 := hb.more hm1
  have lf := hb1.all_eq 36 (FlowM.cells_len hf)
  simp -implicitDefEqProofs (maxSteps := 1000000) only [↓zvN, zvU, ↓zvE, zvM, init, one, Value.cells, simprocAttr, tyF, gens_c33 h hg1, lf]
  refine call_ok Tryz.call166 (gens_class w1 g m h hg1 m.old ho f hf) ?_
  rintro _ w2 ⟨rfl, hm2⟩
  have hg2 := hg1.more hm2
  have lg := hg2.lt
  have lf2 := (hb1.more hm2).all_eq 36 (FlowM.cells_len hf)
  have mvc := gens_c34 h hg2
  obtain ⟨c, hc⟩ : ∃ c, m.classM m.old f = c := ⟨_, rfl⟩
  rw [hc] at hcr e2 ⊢
  simp -implicitDefEqProofs (maxSteps := 1000000) only [↓zvN, zvU, ↓zvE, zvM, init, one, Value.cells, simprocAttr, tyF]
  by_cases hmov : m.moving = true
  · rw [hmov] at mvc
    by_cases hle : m.moved ≤ c - m.old * m.buckets
    · have hw : m.whereM f = (m.old, c) := by unfold GensM.whereM; rw [if_pos (.inr (by rw [hc]; exact hle)), hc]
      rw [hw]
      refine draw_calm mixed (by kernel_rfl) ?_
      simp -implicitDefEqProofs (maxSteps := 1000000) only [↓zvN, zvU, ↓zqD, ↓zvE, zvM, init, one, Value.cells, simprocAttr, tyF, mvc, gens_c0 hg2, gens_c35 h hg2, e1, e2, hle, lg]
      intro w3 hm3
      try simp -implicitDefEqProofs (maxSteps := 1000000) only [↓zvN, zvU, ↓zvE, zvM, init, one, Value.cells, simprocAttr, tyF]
      exact (hm1.trans hm2).trans hm3
    · have hw : m.whereM f = (1 - m.old, m.classM (1 - m.old) f) := by
        unfold GensM.whereM
        rw [if_neg]
        rintro (h1 | h1)
        · rw [hmov] at h1; cases h1
        · rw [hc] at h1; exact hle h1
      rw [hw]
      refine draw_calm mixed (by kernel_rfl) ?_
      simp -implicitDefEqProofs (maxSteps := 1000000) only [↓zvN, zvU, ↓zqD, ↓zvE, zvM, init, one, Value.cells, simprocAttr, tyF, mvc, gens_c0 hg2, gens_c35 h hg2, e1, e2, hle, lg]
      intro w3 hm3
      have lf3 := ((hb1.more hm2).more hm3).all_eq 36 (FlowM.cells_len hf)
      simp -implicitDefEqProofs (maxSteps := 1000000) only [↓zvN, zvU, ↓zvE, zvM, init, one, Value.cells, simprocAttr, tyF, e3, lf3]
      refine call_ok Tryz.call166 (gens_class w3 g m h (hg2.more hm3) (1 - m.old) ho' f hf) ?_
      rintro _ w4 ⟨rfl, hm4⟩
      simp -implicitDefEqProofs (maxSteps := 1000000) only [↓zvN, zvU, ↓zvE, zvM, init, one, Value.cells, simprocAttr, tyF, e3]
      exact ((hm1.trans hm2).trans hm3).trans hm4
  · have hmf : m.moving = false := by simpa using hmov
    rw [hmf] at mvc
    have hw : m.whereM f = (m.old, c) := by unfold GensM.whereM; rw [if_pos (.inl hmf), hc]
    rw [hw]
    refine draw_calm mixed (by kernel_rfl) ?_
    simp -implicitDefEqProofs (maxSteps := 1000000) only [↓zvN, zvU, ↓zqD, ↓zvE, zvM, init, one, Value.cells, simprocAttr, tyF, mvc, lg]
    intro w3 hm3
    try simp -implicitDefEqProofs (maxSteps := 1000000) only [↓zvN, zvU, ↓zvE, zvM, init, one, Value.cells, simprocAttr, tyF]
    exact (hm1.trans hm2).trans hm3
def GensM.live (m : GensM) (gen : Int) : Prop := gen = m.old ∨ (gen = 1 - m.old ∧ m.moving = true)
theorem gens_bins (w : World) (g : Nat) (m : GensM) (h : m.Ok) (hb : Blk w g 220 m.cells) (gen : Int) (hg : m.live gen) (f : FlowM) (hf : f.Fit) (levels n : Int) (hn : 1 ≤ n ∧ n ≤ 4096) (hlv : 1 ≤ levels ∧ levels ≤ 4) :
    Ret Tryz.prog 153 #[.pointer (some ⟨g, 0, none⟩), .int .i64 gen, .agg f.cells.toArray, .int .i64 levels, .int .i64 n] w fun v w' => ∃ A c, v = .slice A (binsM (m.key gen) f levels n).length c ∧ Cs w' A (ints (binsM (m.key gen) f levels n)) ∧ (∀ a, A = some a → w.heap.size ≤ a.block) ∧ More w w' := by
  refine ret_of Tryz.func153 rfl (by kernel_rfl) (Nat.le_of_ble_eq_true (by kernel_rfl)) ?_
  have ho := h.o
  have hgen : gen = 0 ∨ gen = 1 := by rcases hg with h1 | h1 <;> omega
  have g0 : 0 ≤ gen := by omega
  have g1 : gen < 2 := by omega
  have e3 : IntKind.i64.wrap (1 - m.old) = 1 - m.old := w64 (by omega) (by omega)
  have hm1 := more_alloc w (.cells f.cells.toArray 34)
  have hb1 := Blk.new w 34 f.cells.toArray
  have hmv : gen ≠ m.old → m.moving = true := fun e => by rcases hg with h1 | h1; exact absurd h1 e; exact h1.2
  have hge : gen ≠ m.old → gen = 1 - m.old := fun e => by rcases hg with h1 | h1; exact absurd h1 e; exact h1.1
  have hk := GensM.key_len h gen
  simp -implicitDefEqProofs (maxSteps := 1000000) only [↓zvN, zvU, ↓zvE, zvM, init, one, Value.cells, simprocAttr, tyF]
  obtain ⟨w1, hw1⟩ : ∃ w1, w.alloc (.cells f.cells.toArray 34) = w1 := ⟨_, rfl⟩
  rw [hw1] at hm1 hb1 ⊢
  clear hw1
  rw [List.toList_toArray] at hb1
  obtain ⟨z, hz⟩ : ∃ z, w.heap.size = z := ⟨_, rfl⟩
  rw [hz] at hb1 ⊢
  have hg1 := hb.more hm1
  have lf := hb1.all_eq 36 (FlowM.cells_len hf)
  have lz := hb1.lt
  have lg := hg1.lt
  have mvc := gens_c34 h hg1
  have oc := gens_c33 h hg1
  have lk : ∀ K : Value → Prop, ldRow 16 ⟨g, 1 + gen.toNat * 16, none⟩ w1 K = K (.agg ((m.key gen).map byteV).toArray) := fun K => by
    rcases hgen with rfl | rfl
    · exact gens_k0 h hg1 K
    · exact gens_k1 h hg1 K
  by_cases hgo : gen = m.old
  · rw [← hgo] at oc
    simp -implicitDefEqProofs (maxSteps := 1000000) only [↓zvN, zvU, ↓zvE, zvM, init, one, Value.cells, simprocAttr, tyF, oc]
    refine draw_seen 9 [[], [], [0], [0, 2], [0, 1, 2, 3], [0, 1, 2, 3, 4], [], [], [], [0, 1, 2, 3, 4, 5, 6, 7, 8], [0, 1, 2, 3, 4, 5, 6, 7, 8, 9]] (RV.look []) mixed (by kernel_rfl) (by kernel_rfl) (look_keeps _ (by simp)) ?_
    simp -implicitDefEqProofs (maxSteps := 1000000) only [↓zvN, zvU, ↓zqD, ↓zvE, zvM, init, one, Value.cells, simprocAttr, tyF, lk, lf, lz, lg, g0, g1]
    intro w2 hm2
    try simp -implicitDefEqProofs (maxSteps := 1000000) only [↓zvN, zvU, ↓zvE, zvM, init, one, Value.cells, simprocAttr, tyF, p_nil]
    refine call_ok Tryz.call214 (keyed_bins w2 (m.key gen) f levels n hk hf hn hlv) ?_
    rintro _ w3 ⟨A, c, rfl, hA, hAg, hm3⟩
    simp -implicitDefEqProofs (maxSteps := 1000000) only [↓zvN, zvU, ↓zvE, zvM, init, one, Value.cells, simprocAttr, tyF]
    exact ⟨A, c, rfl, hA, fun a ha => by have := hAg a ha; have := hm1.size; have := hm2.size; omega, (hm1.trans hm2).trans hm3⟩
  · have hmv1 := hmv hgo
    have hge1 := hge hgo
    rw [hmv1] at mvc
    have e3' : IntKind.i64.wrap (1 - m.old) = gen := by rw [e3, hge1]
    simp -implicitDefEqProofs (maxSteps := 1000000) only [↓zvN, zvU, ↓zvE, zvM, init, one, Value.cells, simprocAttr, tyF, oc, mvc, hgo, e3']
    refine draw_seen 9 [[], [], [0], [0, 2], [0, 1, 2, 3], [0, 1, 2, 3, 4], [], [], [], [0, 1, 2, 3, 4, 5, 6, 7, 8], [0, 1, 2, 3, 4, 5, 6, 7, 8, 9]] (RV.look []) mixed (by kernel_rfl) (by kernel_rfl) (look_keeps _ (by simp)) ?_
    simp -implicitDefEqProofs (maxSteps := 1000000) only [↓zvN, zvU, ↓zqD, ↓zvE, zvM, init, one, Value.cells, simprocAttr, tyF, lk, lf, lz, lg, g0, g1]
    intro w2 hm2
    try simp -implicitDefEqProofs (maxSteps := 1000000) only [↓zvN, zvU, ↓zvE, zvM, init, one, Value.cells, simprocAttr, tyF, p_nil]
    refine call_ok Tryz.call214 (keyed_bins w2 (m.key gen) f levels n hk hf hn hlv) ?_
    rintro _ w3 ⟨A, c, rfl, hA, hAg, hm3⟩
    simp -implicitDefEqProofs (maxSteps := 1000000) only [↓zvN, zvU, ↓zvE, zvM, init, one, Value.cells, simprocAttr, tyF]
    exact ⟨A, c, rfl, hA, fun a ha => by have := hAg a ha; have := hm1.size; have := hm2.size; omega, (hm1.trans hm2).trans hm3⟩
def overM (r n : Int) : Int := max 0 (n - r)
def sumOver (r : Int) (l : List Int) : Int := (l.map (overM r)).sum
theorem isum_set : ∀ (l : List Int) (i : Nat) (a b : Int), l[i]? = some a → (l.set i b).sum = l.sum - a + b
  | [], i, a, b, h => by cases h
  | x :: l, 0, a, b, h => by
    simp at h
    subst h
    simp [List.set_cons_zero]
    omega
  | x :: l, i + 1, a, b, h => by
    have := isum_set l i a b (by simpa using h)
    simp [List.set_cons_succ]
    omega
theorem over_set {r : Int} {l : List Int} {c : Nat} {x : Int} (h : l[c]? = some x) (y : Int) : sumOver r (l.set c y) = sumOver r l - overM r x + overM r y := by
  unfold sumOver
  rw [List.map_set]
  exact isum_set _ _ _ _ (by rw [List.getElem?_map, h]; rfl)
structure QuotaW (w : World) (q ql : Nat) (r s : Int) (l : List Int) : Prop where
  blk : Blk w q 230 [.int .i64 r, .int .i64 s, .int .i64 (sumOver r l), .slice (some ⟨ql, 0, none⟩) l.length l.length]
  row : Blk w ql 2 (ints l)
  rr : 0 ≤ r ∧ r ≤ 1073741824
  ss : 0 ≤ s ∧ s ≤ 1073741824
  ll : l.length ≤ 129
  lb : ∀ n ∈ l, 0 ≤ n ∧ n ≤ 1099511627776
theorem QuotaW.more {w w' : World} {q ql : Nat} {r s : Int} {l : List Int} (h : QuotaW w q ql r s l) (hm : More w w') : QuotaW w' q ql r s l := ⟨h.blk.more hm, h.row.more hm, h.rr, h.ss, h.ll, h.lb⟩
theorem QuotaW.mod {w w' : World} {S : Nat → Prop} {q ql : Nat} {r s : Int} {l : List Int} (h : QuotaW w q ql r s l) (hm : Mod S w w') (h1 : ¬ S q) (h2 : ¬ S ql) : QuotaW w' q ql r s l := ⟨hm.blk h.blk h1, hm.blk h.row h2, h.rr, h.ss, h.ll, h.lb⟩
theorem QuotaW.ne {w : World} {q ql : Nat} {r s : Int} {l : List Int} (h : QuotaW w q ql r s l) : q ≠ ql := by
  intro e
  have h1 := h.blk
  rw [e] at h1
  exact absurd (blk_ty h1 h.row) (by decide)
theorem QuotaW.c0 {w : World} {q ql : Nat} {r s : Int} {l : List Int} (h : QuotaW w q ql r s l) : w.cell? ⟨q, 0, none⟩ = some (.int .i64 r) := by rw [h.blk.cell]; rfl
theorem QuotaW.c1 {w : World} {q ql : Nat} {r s : Int} {l : List Int} (h : QuotaW w q ql r s l) : w.cell? ⟨q, 1, none⟩ = some (.int .i64 s) := by rw [h.blk.cell]; rfl
theorem QuotaW.c2 {w : World} {q ql : Nat} {r s : Int} {l : List Int} (h : QuotaW w q ql r s l) : w.cell? ⟨q, 2, none⟩ = some (.int .i64 (sumOver r l)) := by rw [h.blk.cell]; rfl
theorem QuotaW.c3 {w : World} {q ql : Nat} {r s : Int} {l : List Int} (h : QuotaW w q ql r s l) : w.cell? ⟨q, 3, none⟩ = some (.slice (some ⟨ql, 0, none⟩) l.length l.length) := by rw [h.blk.cell]; rfl
theorem ints_get {l : List Int} {c : Nat} {x : Int} (h : l[c]? = some x) : (ints l)[c]? = some (.int .i64 x) := by unfold ints; rw [List.getElem?_map, h]; rfl
theorem QuotaW.at_ {w : World} {q ql : Nat} {r s : Int} {l : List Int} (h : QuotaW w q ql r s l) {c : Nat} {x : Int} (hx : l[c]? = some x) : w.cell? ⟨ql, c, none⟩ = some (.int .i64 x) := by rw [h.row.cell]; exact ints_get hx
theorem sumOver_bound {r : Int} (hr : 0 ≤ r) : ∀ (l : List Int), (∀ n ∈ l, 0 ≤ n ∧ n ≤ 1099511627776) → 0 ≤ sumOver r l ∧ sumOver r l ≤ 1099511627776 * l.length
  | [], _ => by simp [sumOver]
  | x :: l, h => by
    have h1 := sumOver_bound hr l (fun n hn => h n (by simp [hn]))
    have h2 := h x (by simp)
    have e : sumOver r (x :: l) = overM r x + sumOver r l := by simp [sumOver]
    rw [e]
    unfold overM
    simp only [List.length_cons]
    omega
theorem QuotaW.sb {w : World} {q ql : Nat} {r s : Int} {l : List Int} (h : QuotaW w q ql r s l) : 0 ≤ sumOver r l ∧ sumOver r l ≤ 141836999983104 := by
  have := sumOver_bound h.rr.1 l h.lb
  have := h.ll
  omega
theorem quota_has (w : World) (q ql : Nat) (r s : Int) (l : List Int) (h : QuotaW w q ql r s l) (c : Int) :
    Ret Tryz.prog 169 #[.pointer (some ⟨q, 0, none⟩), .int .i64 c] w fun v w' => v = .bool (decide (0 ≤ c ∧ c < l.length)) ∧ w' = w := by
  refine ret_of Tryz.func169 rfl (by kernel_rfl) (Nat.le_of_ble_eq_true (by kernel_rfl)) ?_
  by_cases h0 : 0 ≤ c
  · by_cases h1 : c < (l.length : Int)
    · rw [decide_eq_true (show 0 ≤ c ∧ c < (l.length : Int) from ⟨h0, h1⟩)]
      simp -implicitDefEqProofs (maxSteps := 1000000) only [↓zvN, zvU, ↓zvE, zvM, init, one, Value.cells, simprocAttr, tyF, h0, h1, h.c3]
    · rw [decide_eq_false (fun h => h1 h.2)]
      simp -implicitDefEqProofs (maxSteps := 1000000) only [↓zvN, zvU, ↓zvE, zvM, init, one, Value.cells, simprocAttr, tyF, h0, h1, h.c3]
  · rw [decide_eq_false (fun h => h0 h.1)]
    simp -implicitDefEqProofs (maxSteps := 1000000) only [↓zvN, zvU, ↓zvE, zvM, init, one, Value.cells, simprocAttr, tyF, h0]
theorem quota_over (w : World) (q ql : Nat) (r s : Int) (l : List Int) (h : QuotaW w q ql r s l) (n : Int) (hn : 0 ≤ n ∧ n ≤ 4398046511104) :
    Ret Tryz.prog 219 #[.pointer (some ⟨q, 0, none⟩), .int .i64 n] w fun v w' => v = .int .i64 (overM r n) ∧ w' = w := by
  refine ret_of Tryz.func219 rfl (by kernel_rfl) (Nat.le_of_ble_eq_true (by kernel_rfl)) ?_
  have hr := h.rr
  have e : IntKind.i64.wrap (n - r) = n - r := w64 (by omega) (by omega)
  have e2 : (if 0 < n - r then n - r else 0) = overM r n := by unfold overM; split <;> omega
  simp -implicitDefEqProofs (maxSteps := 1000000) only [↓zvN, zvU, ↓zvE, zvM, init, one, Value.cells, simprocAttr, tyF, h.c0, e]
  rw [e2]
def fitsM (r s : Int) (l : List Int) (x n : Int) : Bool := decide (sumOver r l + overM r (x + n) - overM r x ≤ s)
theorem quota_fits (w : World) (q ql : Nat) (r s : Int) (l : List Int) (h : QuotaW w q ql r s l) {c : Nat} {x n : Int} (hx : l[c]? = some x) (hn : 0 ≤ n ∧ n ≤ 1073741824) :
    Ret Tryz.prog 203 #[.pointer (some ⟨q, 0, none⟩), .int .i64 c, .int .i64 n] w fun v w' => v = .bool (fitsM r s l x n) ∧ More w w' := by
  refine ret_of Tryz.func203 rfl (by kernel_rfl) (Nat.le_of_ble_eq_true (by kernel_rfl)) ?_
  have hcl : c < l.length := (List.getElem?_eq_some_iff.1 hx).1
  have hxb := h.lb x (List.mem_of_getElem? hx)
  have hr := h.rr
  have hs := h.ss
  have hsb := h.sb
  have g0 : (0 : Int) ≤ (c : Int) := by omega
  have g1 : (c : Int) < (l.length : Int) := by omega
  have n0 : ¬ n < 0 := by omega
  have n1 : ¬ (1073741824 : Int) < n := by omega
  have ho1 : 0 ≤ overM r (x + n) ∧ overM r (x + n) ≤ x + n := by unfold overM; omega
  have ho2 : 0 ≤ overM r x ∧ overM r x ≤ x := by unfold overM; omega
  have e1 : IntKind.i64.wrap (x + n) = x + n := w64 (by omega) (by omega)
  have e2 : IntKind.i64.wrap (sumOver r l + overM r (x + n)) = sumOver r l + overM r (x + n) := w64 (by omega) (by omega)
  have e3 : IntKind.i64.wrap (sumOver r l + overM r (x + n) - overM r x) = sumOver r l + overM r (x + n) - overM r x := w64 (by omega) (by omega)
  have lq := h.blk.lt
  have lql := h.row.lt
  simp -implicitDefEqProofs (maxSteps := 1000000) only [↓zvN, zvU, ↓zvE, zvM, init, one, Value.cells, simprocAttr, tyF]
  refine call_ok Tryz.call169 (quota_has w q ql r s l h c) ?_
  rintro _ w1 ⟨rfl, rfl⟩
  rw [decide_eq_true (show 0 ≤ (c : Int) ∧ (c : Int) < (l.length : Int) from ⟨g0, g1⟩)]
  simp -implicitDefEqProofs (maxSteps := 1000000) only [↓zvN, zvU, ↓zvE, zvM, init, one, Value.cells, simprocAttr, tyF, n0, n1]
  refine draw_seen 30 [[], [0], [0, 1], [0, 1, 2], [], [], [5], [5, 6], [5, 6, 7], [], [5, 6, 7, 8, 9], [5, 6, 7, 8, 9, 10], [], [5, 6, 7, 8, 9, 10, 11, 12], [4, 5, 6, 7, 8, 9, 10, 11, 12, 13], [0, 1, 2, 3, 4, 5, 6, 7, 8, 9, 10, 11, 12, 13, 14], [], [], [17], [17, 18], [17, 18, 19], [], [17, 18, 19, 20, 21], [17, 18, 19, 20, 21, 22], [4, 5, 6, 7, 8, 9, 10, 11, 12, 13, 14, 16, 17, 18, 19, 20, 21, 22, 23], [0, 1, 2, 3, 4, 5, 6, 7, 8, 9, 10, 11, 12, 13, 14, 15, 16, 17, 18, 19, 20, 21, 22, 23, 24], [], [26], [26, 27], [26, 27, 28], [0, 1, 2, 3, 4, 5, 6, 7, 8, 9, 10, 11, 12, 13, 14, 15, 16, 17, 18, 19, 20, 21, 22, 23, 24, 25, 26, 27, 28, 29], [0, 1, 2, 3, 4, 5, 6, 7, 8, 9, 10, 11, 12, 13, 14, 15, 16, 17, 18, 19, 20, 21, 22, 23, 24, 25, 26, 27, 28, 29, 30]] (RV.look [(14, IsV (.int .i64 (overM r (x + n)))), (24, IsV (.int .i64 (overM r x)))]) mixed (by kernel_rfl) (by kernel_rfl) (look_keeps _ (by
    intro z hz
    simp only [List.mem_cons, List.not_mem_nil, or_false] at hz
    rcases hz with rfl | rfl
    · exact keepsV _
    · exact keepsV _)) ?_
  simp -implicitDefEqProofs (maxSteps := 1000000) only [↓zvN, zvU, ↓zqD, ↓zvE, zvM, init, one, Value.cells, simprocAttr, tyF, h.c2, h.c3, h.at_ hx, e1, lq, lql, g0, g1, Int.toNat_natCast]
  refine ⟨fun w2 hm2 => ?_, ?_⟩
  · refine call_ok Tryz.call219 (quota_over w2 q ql r s l (h.more hm2) (x + n) (by omega)) ?_
    rintro _ _ ⟨rfl, rfl⟩
    simp -implicitDefEqProofs (maxSteps := 1000000) only [↓zvN, zvU, ↓zqD, ↓zvE, zvM, init, one, Value.cells, simprocAttr, tyF]
    exact ⟨More.refl _, rfl⟩
  rintro _ ⟨w2, hm2, rfl⟩
  simp -implicitDefEqProofs (maxSteps := 1000000) only [↓zvN, zvU, ↓zqD, ↓zvE, zvM, init, one, Value.cells, simprocAttr, tyF, h.c2, h.c3, h.at_ hx, e1, e2, lq, lql, g0, g1, Int.toNat_natCast]
  refine ⟨fun w3 hm3 _ => ?_, ?_⟩
  · refine call_ok Tryz.call219 (quota_over w3 q ql r s l (h.more hm3) x (by omega)) ?_
    rintro _ _ ⟨rfl, rfl⟩
    simp -implicitDefEqProofs (maxSteps := 1000000) only [↓zvN, zvU, ↓zqD, ↓zvE, zvM, init, one, Value.cells, simprocAttr, tyF]
    exact ⟨More.refl _, rfl⟩
  rintro _ ⟨w3, hm3, _, rfl⟩
  simp -implicitDefEqProofs (maxSteps := 1000000) only [↓zvN, zvU, ↓zqD, ↓zvE, zvM, init, one, Value.cells, simprocAttr, tyF, h.c1, h.c2, h.c3, h.at_ hx, e1, e2, e3, lq, lql, g0, g1, Int.toNat_natCast]
  rintro w4 hm4 _
  try simp -implicitDefEqProofs (maxSteps := 1000000) only [↓zvN, zvU, ↓zvE, zvM, init, one, Value.cells, simprocAttr, tyF, p_nil]
  first | exact ⟨rfl, hm4⟩ | exact hm4
theorem quota_put (w : World) (q ql : Nat) (r s : Int) (l : List Int) (h : QuotaW w q ql r s l) {c : Nat} {x n : Int} (hx : l[c]? = some x) (hn : 0 ≤ x + n ∧ x + n ≤ 1099511627776) :
    Ret Tryz.prog 170 #[.pointer (some ⟨q, 0, none⟩), .int .i64 c, .int .i64 n] w fun v w' => v = .tuple #[] ∧ QuotaW w' q ql r s (l.set c (x + n)) ∧ Mod (duo q ql) w w' := by
  refine ret_of Tryz.func170 rfl (by kernel_rfl) (Nat.le_of_ble_eq_true (by kernel_rfl)) ?_
  have hcl : c < l.length := (List.getElem?_eq_some_iff.1 hx).1
  have hxb := h.lb x (List.mem_of_getElem? hx)
  have hr := h.rr
  have hs := h.ss
  have hsb := h.sb
  have hne := h.ne
  have g0 : (0 : Int) ≤ (c : Int) := by omega
  have g1 : (c : Int) < (l.length : Int) := by omega
  have ho1 : 0 ≤ overM r (x + n) ∧ overM r (x + n) ≤ x + n := by unfold overM; omega
  have ho2 : 0 ≤ overM r x ∧ overM r x ≤ x := by unfold overM; omega
  have hos := over_set (r := r) hx (x + n)
  have e1 : IntKind.i64.wrap (x + n) = x + n := w64 (by omega) (by omega)
  have e2 : IntKind.i64.wrap (overM r (x + n) - overM r x) = overM r (x + n) - overM r x := w64 (by omega) (by omega)
  have e3 : IntKind.i64.wrap (sumOver r l + (overM r (x + n) - overM r x)) = sumOver r (l.set c (x + n)) := by rw [hos, w64 (by omega) (by omega)]; omega
  have lq := h.blk.lt
  have lql := h.row.lt
  simp -implicitDefEqProofs (maxSteps := 1000000) only [↓zvN, zvU, ↓zvE, zvM, init, one, Value.cells, simprocAttr, tyF]
  refine draw_seen 25 [[], [0], [0, 1], [0, 1, 2], [], [], [5], [5, 6], [5, 6, 7], [], [5, 6, 7, 8, 9], [5, 6, 7, 8, 9, 10], [], [5, 6, 7, 8, 9, 10, 11, 12], [4, 5, 6, 7, 8, 9, 10, 11, 12, 13], [], [], [16], [16, 17], [16, 17, 18], [], [16, 17, 18, 19, 20], [16, 17, 18, 19, 20, 21], [4, 5, 6, 7, 8, 9, 10, 11, 12, 13, 14, 15, 16, 17, 18, 19, 20, 21, 22], [4, 5, 6, 7, 8, 9, 10, 11, 12, 13, 14, 15, 16, 17, 18, 19, 20, 21, 22, 23], [0, 1, 2, 3, 4, 5, 6, 7, 8, 9, 10, 11, 12, 13, 14, 15, 16, 17, 18, 19, 20, 21, 22, 23, 24], [0, 1, 2, 3, 4, 5, 6, 7, 8, 9, 10, 11, 12, 13, 14, 15, 16, 17, 18, 19, 20, 21, 22, 23, 24, 25], [0, 1, 2, 3, 4, 5, 6, 7, 8, 9, 10, 11, 12, 13, 14, 15, 16, 17, 18, 19, 20, 21, 22, 23, 24, 25, 26], [0, 1, 2, 3, 4, 5, 6, 7, 8, 9, 10, 11, 12, 13, 14, 15, 16, 17, 18, 19, 20, 21, 22, 23, 24, 25, 26, 27]] (RV.look [(14, IsV (.int .i64 (overM r (x + n)))), (23, IsV (.int .i64 (overM r x)))]) mixed (by kernel_rfl) (by kernel_rfl) (look_keeps _ (by
    intro z hz
    simp only [List.mem_cons, List.not_mem_nil, or_false] at hz
    rcases hz with rfl | rfl
    · exact keepsV _
    · exact keepsV _)) ?_
  simp -implicitDefEqProofs (maxSteps := 1000000) only [↓zvN, zvU, ↓zqD, ↓zvE, zvM, init, one, Value.cells, simprocAttr, tyF, h.c2, h.c3, h.at_ hx, e1, lq, lql, g0, g1, Int.toNat_natCast]
  refine ⟨fun w2 hm2 => ?_, ?_⟩
  · refine call_ok Tryz.call219 (quota_over w2 q ql r s l (h.more hm2) (x + n) (by omega)) ?_
    rintro _ _ ⟨rfl, rfl⟩
    simp -implicitDefEqProofs (maxSteps := 1000000) only [↓zvN, zvU, ↓zqD, ↓zvE, zvM, init, one, Value.cells, simprocAttr, tyF]
    exact ⟨More.refl _, rfl⟩
  rintro _ ⟨w2, hm2, rfl⟩
  simp -implicitDefEqProofs (maxSteps := 1000000) only [↓zvN, zvU, ↓zqD, ↓zvE, zvM, init, one, Value.cells, simprocAttr, tyF, h.c2, h.c3, h.at_ hx, e1, e2, lq, lql, g0, g1, Int.toNat_natCast]
  refine ⟨fun w3 hm3 _ => ?_, ?_⟩
  · refine call_ok Tryz.call219 (quota_over w3 q ql r s l (h.more hm3) x (by omega)) ?_
    rintro _ _ ⟨rfl, rfl⟩
    simp -implicitDefEqProofs (maxSteps := 1000000) only [↓zvN, zvU, ↓zqD, ↓zvE, zvM, init, one, Value.cells, simprocAttr, tyF]
    exact ⟨More.refl _, rfl⟩
  rintro _ ⟨w3, hm3, _, rfl⟩
  simp -implicitDefEqProofs (maxSteps := 1000000) only [↓zvN, zvU, ↓zqD, ↓zvE, zvM, init, one, Value.cells, simprocAttr, tyF, h.c1, h.c2, h.c3, h.at_ hx, e1, e2, e3, lq, lql, g0, g1, Int.toNat_natCast]
  rintro w4 hm4 _
  try simp -implicitDefEqProofs (maxSteps := 1000000) only [↓zvN, zvU, ↓zvE, zvM, init, one, Value.cells, simprocAttr, tyF, p_nil]
  have h4 := h.more hm4
  refine st_cell (i := 2) (v := .int .i64 (sumOver r (l.set c (x + n)))) h4.blk (by simp) rfl fun w5 i5 k5 => ?_
  rw [s2_undef]
  have r5 := i5.blk h4.row (fun e => hne e.symm)
  have c53 : w5.cell? ⟨q, 3, none⟩ = some (.slice (some ⟨ql, 0, none⟩) l.length l.length) := by rw [k5.cell]; rfl
  have c5x : w5.cell? ⟨ql, c, none⟩ = some (.int .i64 x) := by rw [r5.cell]; exact ints_get hx
  simp -implicitDefEqProofs (maxSteps := 1000000) only [↓zvN, zvU, ↓zvE, zvM, init, one, Value.cells, simprocAttr, tyF, p_nil, c53, c5x, e1, g0, g1, Int.toNat_natCast]
  refine st_cell (i := c) (v := .int .i64 (x + n)) r5 (by rw [ints_len]; exact hcl) rfl fun w6 i6 k6 => ?_
  rw [s2_undef]
  simp -implicitDefEqProofs (maxSteps := 1000000) only [↓zvN, zvU, ↓zvE, zvM, init, one, Value.cells, simprocAttr, tyF]
  have hse : (ints l).set c (.int .i64 (x + n)) = ints (l.set c (x + n)) := by unfold ints; rw [List.map_set]
  rw [hse] at k6
  refine ⟨⟨by rw [List.length_set]; exact i6.blk k5 hne, k6, hr, hs, by rw [List.length_set]; exact h.ll, fun u hu => ?_⟩, ((Mod.of_more hm4).trans (Mod.of_wr i5 (.inl rfl))).trans (Mod.of_wr i6 (.inr rfl))⟩
  rcases List.mem_or_eq_of_mem_set hu with h2 | h2
  · exact h.lb u h2
  · rw [h2]; exact hn
theorem quota_add (w : World) (q ql : Nat) (r s : Int) (l : List Int) (h : QuotaW w q ql r s l) {c : Nat} {x n : Int} (hx : l[c]? = some x) (hn : 0 ≤ n ∧ n ≤ 1073741824) (hxn : x + n ≤ 1099511627776) (hf : fitsM r s l x n = true) :
    Ret Tryz.prog 204 #[.pointer (some ⟨q, 0, none⟩), .int .i64 c, .int .i64 n] w fun v w' => v = .bool true ∧ QuotaW w' q ql r s (l.set c (x + n)) ∧ Mod (duo q ql) w w' := by
  refine ret_of Tryz.func204 rfl (by kernel_rfl) (Nat.le_of_ble_eq_true (by kernel_rfl)) ?_
  have hxb := h.lb x (List.mem_of_getElem? hx)
  simp -implicitDefEqProofs (maxSteps := 1000000) only [↓zvN, zvU, ↓zvE, zvM, init, one, Value.cells, simprocAttr, tyF]
  refine call_ok Tryz.call203 (quota_fits w q ql r s l h hx hn) ?_
  rintro _ w1 ⟨rfl, hm1⟩
  rw [hf]
  simp -implicitDefEqProofs (maxSteps := 1000000) only [↓zvN, zvU, ↓zvE, zvM, init, one, Value.cells, simprocAttr, tyF]
  refine call_ok Tryz.call170 (quota_put w1 q ql r s l (h.more hm1) hx (by omega)) ?_
  rintro _ w2 ⟨rfl, hQ2, hm2⟩
  simp -implicitDefEqProofs (maxSteps := 1000000) only [↓zvN, zvU, ↓zvE, zvM, init, one, Value.cells, simprocAttr, tyF]
  exact ⟨hQ2, (Mod.of_more hm1).trans hm2⟩
theorem quota_sub (w : World) (q ql : Nat) (r s : Int) (l : List Int) (h : QuotaW w q ql r s l) {c : Nat} {x n : Int} (hx : l[c]? = some x) (hn : 0 ≤ n ∧ n ≤ x) :
    Ret Tryz.prog 149 #[.pointer (some ⟨q, 0, none⟩), .int .i64 c, .int .i64 n] w fun v w' => v = .bool true ∧ QuotaW w' q ql r s (l.set c (x - n)) ∧ Mod (duo q ql) w w' := by
  refine ret_of Tryz.func149 rfl (by kernel_rfl) (Nat.le_of_ble_eq_true (by kernel_rfl)) ?_
  have hcl : c < l.length := (List.getElem?_eq_some_iff.1 hx).1
  have hxb := h.lb x (List.mem_of_getElem? hx)
  have g0 : (0 : Int) ≤ (c : Int) := by omega
  have g1 : (c : Int) < (l.length : Int) := by omega
  have n0 : 0 ≤ n := hn.1
  have n1 : n ≤ x := hn.2
  have e1 : IntKind.i64.wrap (0 - n) = -n := by rw [w64 (by omega) (by omega)]; omega
  simp -implicitDefEqProofs (maxSteps := 1000000) only [↓zvN, zvU, ↓zvE, zvM, init, one, Value.cells, simprocAttr, tyF]
  refine call_ok Tryz.call169 (quota_has w q ql r s l h c) ?_
  rintro _ w1 ⟨rfl, rfl⟩
  rw [decide_eq_true (show 0 ≤ (c : Int) ∧ (c : Int) < (l.length : Int) from ⟨g0, g1⟩)]
  simp -implicitDefEqProofs (maxSteps := 1000000) only [↓zvN, zvU, ↓zvE, zvM, init, one, Value.cells, simprocAttr, tyF, n0, n1, h.c3, h.at_ hx, g0, g1, Int.toNat_natCast, e1]
  refine call_ok Tryz.call170 (quota_put w1 q ql r s l h hx (n := -n) (by omega)) ?_
  rintro _ w2 ⟨rfl, hQ2, hm2⟩
  simp -implicitDefEqProofs (maxSteps := 1000000) only [↓zvN, zvU, ↓zvE, zvM, init, one, Value.cells, simprocAttr, tyF]
  rw [show x + -n = x - n by omega] at hQ2
  exact ⟨hQ2, hm2⟩
end Go.Proofs.YtofhbonnojooeaaGreat

