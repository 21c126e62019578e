/-
  Layer 26: the reference's bytes; other thresholds.
-/
import Derived.Test.YtloiglnejffmkaaCfgF
namespace Go.Proofs.Ytloiglnejffmkaa
open Go Go.RowKit Go.Proofs.RV
set_option linter.unusedSimpArgs false
set_option linter.unusedVariables false
set_option maxRecDepth 10000
set_option maxHeartbeats 4000000

def REncJ (c : List Int) (w : World) (v3 v10 : Value) (w' : World) : Prop :=
  ∃ (k : Nat) (A : Option Addr) (cp : Nat), v10 = .int .i64 k ∧ k ≤ 20 ∧ v3 = .slice A (encC (c.take k)).length cp ∧ Own w' w.heap.size 5 1 A (encC (c.take k)).length cp ((encC (c.take k)).map byteV) ∧ More w w'
theorem ref_encode26 (w : World) (c : List Int) (hc : c.length = 20) : Ret Try.prog 89 #[.agg (ints c).toArray] w fun v w' => ∃ A cp, v = .slice A 160 cp ∧ Own w' w.heap.size 5 1 A 160 cp ((encC c).map byteV) ∧ More w w' := by
  refine ret_of Try.func89 rfl (by kernel_rfl) (Nat.le_of_ble_eq_true (by kernel_rfl)) ?_
  have hm1 := more_alloc w (.cells (ints c).toArray 84)
  have hb1 := Blk.new w 84 (ints c).toArray
  simp (config := {maxSteps := 1000000}) only [↓zvD, zvU, ↓up_apply, ↓hv_apply, ↓upO_some, ↓upO_none, ↓ev_tmp, ↓ev_const, ↓ev_func, ↓ev_global, init, Nat.reduceEqDiff, Nat.reduceAdd, Nat.reduceMul, Nat.reduceSub, ↓reduceIte, Int.reduceEq, Int.reduceNe, Nat.reduceLeDiff, one, Value.cells, Int.reduceLE, Int.reduceLT, Int.reduceToNat, add_mk, reduceCtorEq, List.mem_range'_1, true_and, and_true, and_false, false_and, Nat.reduceLT, Nat.reduceLeDiff, tyF]
  generalize w.alloc (.cells (ints c).toArray 84) = w1 at hm1 hb1 ⊢
  rw [List.toList_toArray] at hb1
  have hv := hb1.all_eq 20 (by rw [ints_len, hc])
  simp (config := {maxSteps := 1000000}) only [↓zvD, zvU, ↓up_apply, ↓hv_apply, ↓upO_some, ↓upO_none, ↓ev_tmp, ↓ev_const, ↓ev_func, ↓ev_global, init, Nat.reduceEqDiff, Nat.reduceAdd, Nat.reduceMul, Nat.reduceSub, ↓reduceIte, Int.reduceEq, Int.reduceNe, Nat.reduceLeDiff, one, Value.cells, Int.reduceLE, Int.reduceLT, Int.reduceToNat, add_mk, reduceCtorEq, List.mem_range'_1, true_and, and_true, and_false, false_and, Nat.reduceLT, Nat.reduceLeDiff, tyF, hv]
  refine call_ok Try.call114 (ref_fields w1 c hc) ?_
  rintro _ w2 ⟨bf, rfl, hbf, hf2, hm2⟩
  simp (config := {maxSteps := 1000000}) only [↓zvD, zvU, ↓up_apply, ↓hv_apply, ↓upO_some, ↓upO_none, ↓ev_tmp, ↓ev_const, ↓ev_func, ↓ev_global, init, Nat.reduceEqDiff, Nat.reduceAdd, Nat.reduceMul, Nat.reduceSub, ↓reduceIte, Int.reduceEq, Int.reduceNe, Nat.reduceLeDiff, one, Value.cells, Int.reduceLE, Int.reduceLT, Int.reduceToNat, add_mk, reduceCtorEq, List.mem_range'_1, true_and, and_true, and_false, false_and, Nat.reduceLT, Nat.reduceLeDiff, tyF]
  have hm12 := hm1.trans hm2
  refine loop_p (3 :: 5 :: List.range' 10 12) (fun e w' => REncJ c w2 (e 3) (e 10) w') (fun e _ => 20 - (numOf (e 10)).toNat) ?_ ?_
  · exact ⟨0, none, 0, by simp only [hv_apply, up_apply, upO_some, upO_none, init, List.mem_cons, List.mem_range'_1, true_and, and_true, and_false, false_and, Nat.reduceLT, Nat.reduceLeDiff, Nat.reduceAdd, true_or, or_true, if_true, if_false, ↓reduceIte, Nat.reduceEqDiff, false_or, or_false, List.not_mem_nil, List.getElem?_cons_zero, List.getElem?_cons_succ, Option.getD_some] <;> rfl, by omega, by simp only [hv_apply, up_apply, upO_some, upO_none, init, List.mem_cons, List.mem_range'_1, true_and, and_true, and_false, false_and, Nat.reduceLT, Nat.reduceLeDiff, Nat.reduceAdd, true_or, or_true, if_true, if_false, ↓reduceIte, Nat.reduceEqDiff, false_or, or_false, List.not_mem_nil, List.getElem?_cons_zero, List.getElem?_cons_succ, Option.getD_some] <;> rfl, Own.nil _ _ _ _, More.refl _⟩
  rintro v w3 ⟨k, A3, c3, h10, hk, h3, ho3, hm3⟩
  simp only [hv_apply, up_apply, upO_some, upO_none, init, List.mem_cons, List.mem_range'_1, true_and, and_true, and_false, false_and, Nat.reduceLT, Nat.reduceLeDiff, Nat.reduceAdd, true_or, or_true, if_true, if_false, ↓reduceIte, Nat.reduceEqDiff, false_or, or_false, List.not_mem_nil, List.getElem?_cons_zero, List.getElem?_cons_succ, Option.getD_some] at h10 h3
  have ek : IntKind.i64.wrap ((k : Int) + 1) = ((k + 1 : Nat) : Int) := w64 (by omega) (by omega)
  have g0 : (0 : Int) ≤ (k : Int) := by omega
  simp (config := {maxSteps := 1000000}) only [↓zvD, zvU, ↓up_apply, ↓hv_apply, ↓upO_some, ↓upO_none, ↓ev_tmp, ↓ev_const, ↓ev_func, ↓ev_global, init, Nat.reduceEqDiff, Nat.reduceAdd, Nat.reduceMul, Nat.reduceSub, ↓reduceIte, Int.reduceEq, Int.reduceNe, Nat.reduceLeDiff, one, Value.cells, Int.reduceLE, Int.reduceLT, Int.reduceToNat, add_mk, reduceCtorEq, List.mem_range'_1, true_and, and_true, and_false, false_and, Nat.reduceLT, Nat.reduceLeDiff, tyF, h10, h3]
  refine ⟨fun h9 => ?_, fun h9 => ?_⟩
  · have hk1 : k < 20 := by omega
    have r1 : w3.cell? ⟨bf, k, none⟩ = some (.int .i64 (c.getD k 0)) := by rw [(hf2.more hm3).cell]; exact ints_at (by omega)
    simp (config := {maxSteps := 1000000}) only [↓zvD, zvU, ↓up_apply, ↓hv_apply, ↓upO_some, ↓upO_none, ↓ev_tmp, ↓ev_const, ↓ev_func, ↓ev_global, init, Nat.reduceEqDiff, Nat.reduceAdd, Nat.reduceMul, Nat.reduceSub, ↓reduceIte, Int.reduceEq, Int.reduceNe, Nat.reduceLeDiff, one, Value.cells, Int.reduceLE, Int.reduceLT, Int.reduceToNat, add_mk, reduceCtorEq, List.mem_range'_1, true_and, and_true, and_false, false_and, Nat.reduceLT, Nat.reduceLeDiff, tyF, h10, h3, g0, h9, r1, Int.toNat_natCast, Nat.zero_add]
    refine call_ok Try.call25 (ref_number w3 _ 8 (wrapu_nonneg _) (by omega)) ?_
    rintro _ w4 ⟨A4, c4, rfl, ho4, hm4⟩
    have e8 := numB_len (IntKind.u64.wrap (c.getD k 0)) 8
    have el := encC_len (c.take k)
    have etl : (c.take k).length = k := by rw [List.length_take]; omega
    rw [e8] at ho4 ⊢
    simp (config := {maxSteps := 1000000}) only [↓zvD, zvU, ↓up_apply, ↓hv_apply, ↓upO_some, ↓upO_none, ↓ev_tmp, ↓ev_const, ↓ev_func, ↓ev_global, init, Nat.reduceEqDiff, Nat.reduceAdd, Nat.reduceMul, Nat.reduceSub, ↓reduceIte, Int.reduceEq, Int.reduceNe, Nat.reduceLeDiff, one, Value.cells, Int.reduceLE, Int.reduceLT, Int.reduceToNat, add_mk, reduceCtorEq, List.mem_range'_1, true_and, and_true, and_false, false_and, Nat.reduceLT, Nat.reduceLeDiff, tyF, h10, h3]
    have hs3 := hm3.size
    have hs4 := hm4.size
    refine app_own (m := 8) Try.underlying22 byteE rfl (by omega) (ho3.more hm4) ho4.cs (by rw [List.length_map, e8]) (byteV_one _) (by simp only [maxLen]; omega) (by omega) (by omega) ?_
    intro A5 c5 w5 ho5 hg5 _
    have hm5 : More w2 w5 := grown_below (ho3.more hm4) (hm3.trans hm4) (by omega) hg5
    have est := encC_step c (k := k) (by omega)
    have esl : (encC (c.take k)).length + 8 = (encC (c.take (k + 1))).length := by rw [est, List.length_append, e8]
    rw [← List.map_append, ← est, esl] at ho5
    rw [esl]
    simp (config := {maxSteps := 1000000}) only [↓zvD, zvU, ↓up_apply, ↓hv_apply, ↓upO_some, ↓upO_none, ↓ev_tmp, ↓ev_const, ↓ev_func, ↓ev_global, init, Nat.reduceEqDiff, Nat.reduceAdd, Nat.reduceMul, Nat.reduceSub, ↓reduceIte, Int.reduceEq, Int.reduceNe, Nat.reduceLeDiff, one, Value.cells, Int.reduceLE, Int.reduceLT, Int.reduceToNat, add_mk, reduceCtorEq, List.mem_range'_1, true_and, and_true, and_false, false_and, Nat.reduceLT, Nat.reduceLeDiff, tyF, h10, h3, ek]
    refine ⟨⟨?_, k + 1, A5, c5, rfl, by omega, rfl, ho5, hm5⟩, by simp only [numOf]; omega⟩
    repeat (first | exact Same.hv _ _ _ | refine Same.up (by simp) ?_)
  · obtain rfl : k = 20 := by omega
    have el := encC_len c
    rw [List.take_of_length_le (by omega), show (encC c).length = 160 by omega] at ho3 ⊢
    exact ⟨A3, c3, rfl, ho3.mono hm12.size, hm12.trans hm3⟩
theorem numAt_eq (l : List UInt8) (k : Nat) : be ((l.drop (8 * k)).take 8) = numAt l k := rfl
def RDecJ (l : List UInt8) (w : World) (p z : Nat) (v5 v14 : Value) (w' : World) : Prop :=
  ∃ (k : Nat) (A5 : Option Addr) (c5 : Nat) (A : Option Addr) (c : Nat), v14 = .int .i64 k ∧ k ≤ 20 ∧ v5 = .slice A5 k c5 ∧ Own w' (p + 1) 2 1 A5 k c5 (ints ((numsC l).take k)) ∧ Blk w' p 51 [.slice A (160 - 8 * k) c, .bool false] ∧ Bs w A (l.drop (8 * k)) ∧ 160 - 8 * k ≤ c ∧ Blk w' z 84 (ints z20) ∧ More w w'
theorem numsC_len (l : List UInt8) : (numsC l).length = 20 := by simp [numsC]
theorem numsC_step (l : List UInt8) {k : Nat} (h : k < 20) : (numsC l).take (k + 1) = (numsC l).take k ++ [IntKind.i64.wrap (numAt l k)] := by
  rw [List.take_succ_eq_append_getElem (by rw [numsC_len]; omega)]
  congr 2
  simp [numsC]
theorem ref_decode26 (w : World) (A : Option Addr) (l : List UInt8) (c : Nat) (hA : Bs w A l) (hc : l.length ≤ c) :
    Ret Try.prog 111 #[.slice A l.length c] w (DecCR l w) := by
  refine ret_of Try.func111 rfl (by kernel_rfl) (Nat.le_of_ble_eq_true (by kernel_rfl)) ?_
  have z49 : zer Try.prog 84 = some (.agg (ints z20).toArray) := by rw [zer84]; rfl
  have b49 : ∀ (w0 : World) (K : Value → Prop), pureP Try.prog (Instr.build 84 #[]) K = K (.agg (ints z20).toArray) := fun w0 K => build_of (ints z20) (by kernel_rfl) z49 (by kernel_rfl) w0 K
  have hm1 := more_alloc w (.cells (ints z20).toArray 84)
  have hb1 := Blk.new w 84 (ints z20).toArray
  have s1 := size_alloc w (.cells (ints z20).toArray 84)
  simp (config := {maxSteps := 1000000}) only [↓zvD, zvU, ↓up_apply, ↓hv_apply, ↓upO_some, ↓upO_none, ↓ev_tmp, ↓ev_const, ↓ev_func, ↓ev_global, init, Nat.reduceEqDiff, Nat.reduceAdd, Nat.reduceMul, Nat.reduceSub, ↓reduceIte, Int.reduceEq, Int.reduceNe, Nat.reduceLeDiff, one, Value.cells, Int.reduceLE, Int.reduceLT, Int.reduceToNat, add_mk, reduceCtorEq, List.mem_range'_1, true_and, and_true, and_false, false_and, Nat.reduceLT, Nat.reduceLeDiff, tyF, z49]
  generalize w.alloc (.cells (ints z20).toArray 84) = w1 at hm1 hb1 s1 ⊢
  rw [List.toList_toArray] at hb1
  generalize hzz : w.heap.size = z at hb1 s1
  try rw [hzz]
  refine ⟨fun h160 => ?_, fun h160 => ?_⟩
  rotate_left
  · rw [b49 w]
    simp (config := {maxSteps := 1000000}) only [↓zvD, zvU, ↓up_apply, ↓hv_apply, ↓upO_some, ↓upO_none, ↓ev_tmp, ↓ev_const, ↓ev_func, ↓ev_global, init, Nat.reduceEqDiff, Nat.reduceAdd, Nat.reduceMul, Nat.reduceSub, ↓reduceIte, Int.reduceEq, Int.reduceNe, Nat.reduceLeDiff, one, Value.cells, Int.reduceLE, Int.reduceLT, Int.reduceToNat, add_mk, reduceCtorEq, List.mem_range'_1, true_and, and_true, and_false, false_and, Nat.reduceLT, Nat.reduceLeDiff, tyF]
    rw [st_same_eq hb1 (by rw [ints_len]; rfl) (ints_one _)]
    have hzv := hb1.all_eq 20 (by rw [ints_len]; rfl)
    simp (config := {maxSteps := 1000000}) only [↓zvD, zvU, ↓up_apply, ↓hv_apply, ↓upO_some, ↓upO_none, ↓ev_tmp, ↓ev_const, ↓ev_func, ↓ev_global, init, Nat.reduceEqDiff, Nat.reduceAdd, Nat.reduceMul, Nat.reduceSub, ↓reduceIte, Int.reduceEq, Int.reduceNe, Nat.reduceLeDiff, one, Value.cells, Int.reduceLE, Int.reduceLT, Int.reduceToNat, add_mk, reduceCtorEq, List.mem_range'_1, true_and, and_true, and_false, false_and, Nat.reduceLT, Nat.reduceLeDiff, tyF, hzv]
    refine ⟨?_, hm1⟩
    unfold decC
    rw [if_neg (by omega)]
  have hl : l.length = 160 := by omega
  rw [rin_build _ _ _ w1]
  simp (config := {maxSteps := 1000000}) only [↓zvD, zvU, ↓up_apply, ↓hv_apply, ↓upO_some, ↓upO_none, ↓ev_tmp, ↓ev_const, ↓ev_func, ↓ev_global, init, Nat.reduceEqDiff, Nat.reduceAdd, Nat.reduceMul, Nat.reduceSub, ↓reduceIte, Int.reduceEq, Int.reduceNe, Nat.reduceLeDiff, one, Value.cells, Int.reduceLE, Int.reduceLT, Int.reduceToNat, add_mk, reduceCtorEq, List.mem_range'_1, true_and, and_true, and_false, false_and, Nat.reduceLT, Nat.reduceLeDiff, tyF, zer51]
  have hm2 := more_alloc w1 (.cells #[.slice none 0 0, .bool false] 51)
  have hb2 := Blk.new w1 51 #[.slice none 0 0, .bool false]
  have s2 := size_alloc w1 (.cells #[.slice none 0 0, .bool false] 51)
  generalize w1.alloc (.cells #[.slice none 0 0, .bool false] 51) = w2 at hm2 hb2 s2 ⊢
  generalize hpp : w1.heap.size = p at hb2 s1 s2
  try rw [hpp]
  refine st_all hb2 rfl rfl (by intro u hu; simp at hu; rcases hu with rfl | rfl <;> rfl) fun w3 k1 k2 => ?_
  have hz3 := k1.blk (hb1.more hm2) (by omega)
  have hm3 := k1.below (hm1.trans hm2) (by omega)
  have s3 := k1.size
  refine loop_p (5 :: 6 :: List.range' 14 13) (fun e w' => RDecJ l w p z (e 5) (e 14) w') (fun e _ => 20 - (numOf (e 14)).toNat) ?_ ?_
  · rw [hl] at k2
    exact ⟨0, none, 0, A, c, by simp only [hv_apply, up_apply, upO_some, upO_none, init, List.mem_cons, List.mem_range'_1, true_and, and_true, and_false, false_and, Nat.reduceLT, Nat.reduceLeDiff, Nat.reduceAdd, true_or, or_true, if_true, if_false, ↓reduceIte, Nat.reduceEqDiff, false_or, or_false, List.not_mem_nil, List.getElem?_cons_zero, List.getElem?_cons_succ, Option.getD_some] <;> rfl, by omega, by simp only [hv_apply, up_apply, upO_some, upO_none, init, List.mem_cons, List.mem_range'_1, true_and, and_true, and_false, false_and, Nat.reduceLT, Nat.reduceLeDiff, Nat.reduceAdd, true_or, or_true, if_true, if_false, ↓reduceIte, Nat.reduceEqDiff, false_or, or_false, List.not_mem_nil, List.getElem?_cons_zero, List.getElem?_cons_succ, Option.getD_some] <;> rfl, Own.nil _ _ _ _, k2, hA, by omega, hz3, hm3⟩
  rintro v w4 ⟨k, A4, c4, A', c', h14, hk, h5, ho4, hb4, hA', hc', hz4, hm4⟩
  simp only [hv_apply, up_apply, upO_some, upO_none, init, List.mem_cons, List.mem_range'_1, true_and, and_true, and_false, false_and, Nat.reduceLT, Nat.reduceLeDiff, Nat.reduceAdd, true_or, or_true, if_true, if_false, ↓reduceIte, Nat.reduceEqDiff, false_or, or_false, List.not_mem_nil, List.getElem?_cons_zero, List.getElem?_cons_succ, Option.getD_some] at h14 h5
  have ek : IntKind.i64.wrap ((k : Int) + 1) = ((k + 1 : Nat) : Int) := w64 (by omega) (by omega)
  simp (config := {maxSteps := 1000000}) only [↓zvD, zvU, ↓up_apply, ↓hv_apply, ↓upO_some, ↓upO_none, ↓ev_tmp, ↓ev_const, ↓ev_func, ↓ev_global, init, Nat.reduceEqDiff, Nat.reduceAdd, Nat.reduceMul, Nat.reduceSub, ↓reduceIte, Int.reduceEq, Int.reduceNe, Nat.reduceLeDiff, one, Value.cells, Int.reduceLE, Int.reduceLT, Int.reduceToNat, add_mk, reduceCtorEq, List.mem_range'_1, true_and, and_true, and_false, false_and, Nat.reduceLT, Nat.reduceLeDiff, tyF, h14, h5]
  have hs4 := hb4.lt
  refine ⟨fun h9 => ?_, fun h9 => ?_⟩
  · have hk1 : k < 20 := by omega
    have hv4 := hb4.all_eq 2 rfl
    simp (config := {maxSteps := 1000000}) only [↓zvD, zvU, ↓up_apply, ↓hv_apply, ↓upO_some, ↓upO_none, ↓ev_tmp, ↓ev_const, ↓ev_func, ↓ev_global, init, Nat.reduceEqDiff, Nat.reduceAdd, Nat.reduceMul, Nat.reduceSub, ↓reduceIte, Int.reduceEq, Int.reduceNe, Nat.reduceLeDiff, one, Value.cells, Int.reduceLE, Int.reduceLT, Int.reduceToNat, add_mk, reduceCtorEq, List.mem_range'_1, true_and, and_true, and_false, false_and, Nat.reduceLT, Nat.reduceLeDiff, tyF, h14, h5, hv4]
    have hdl : (l.drop (8 * k)).length = 160 - 8 * k := by rw [List.length_drop, hl]
    have hA4 : Bs w4 A' (l.drop (8 * k)) := hA'.more hm4
    have htk := ref_take_ok w4 A' (l.drop (8 * k)) c' 8 hA4 (by omega) (by omega) (by omega)
    rw [hdl] at htk
    refine call_ok Try.call30 htk ?_
    rintro _ w5 ⟨rfl, hm5⟩
    rw [numAt_eq]
    have hb5 := hb4.more hm5
    have hz5 := hz4.more hm5
    have ho5 := ho4.more hm5
    simp (config := {maxSteps := 1000000}) only [↓zvD, zvU, ↓up_apply, ↓hv_apply, ↓upO_some, ↓upO_none, ↓ev_tmp, ↓ev_const, ↓ev_func, ↓ev_global, init, Nat.reduceEqDiff, Nat.reduceAdd, Nat.reduceMul, Nat.reduceSub, ↓reduceIte, Int.reduceEq, Int.reduceNe, Nat.reduceLeDiff, one, Value.cells, Int.reduceLE, Int.reduceLT, Int.reduceToNat, add_mk, reduceCtorEq, List.mem_range'_1, true_and, and_true, and_false, false_and, Nat.reduceLT, Nat.reduceLeDiff, tyF, h14, h5]
    refine st_all hb5 rfl rfl (by intro u hu; simp at hu; rcases hu with rfl | rfl <;> rfl) fun w6 j1 j2 => ?_
    have hz6 := j1.blk hz5 (by omega)
    have hm6 := j1.below (hm4.trans hm5) (by omega)
    have ho6 := ho5.wr j1 (fun g hg => by have := ho5.atB_ge ⟨_, hg, rfl⟩; simp only at this; omega)
    refine bslice (z := .int .i64 0) (cells := #[.int .i64 (IntKind.i64.wrap (numAt l k))]) Try.underlying121 int64E (by omega) (by have := bcells_list (z := .int .i64 0) [.int .i64 (IntKind.i64.wrap (numAt l k))] (by intro v hv; simp at hv; subst hv; rfl); exact this) ?_
    have hm7 := more_alloc w6 (.cells #[.int .i64 (IntKind.i64.wrap (numAt l k))] 2)
    have hb7 := Blk.new w6 2 #[.int .i64 (IntKind.i64.wrap (numAt l k))]
    have s7 := size_alloc w6 (.cells #[.int .i64 (IntKind.i64.wrap (numAt l k))] 2)
    generalize w6.alloc (.cells #[.int .i64 (IntKind.i64.wrap (numAt l k))] 2) = w7 at hm7 hb7 s7 ⊢
    simp (config := {maxSteps := 1000000}) only [↓zvD, zvU, ↓up_apply, ↓hv_apply, ↓upO_some, ↓upO_none, ↓ev_tmp, ↓ev_const, ↓ev_func, ↓ev_global, init, Nat.reduceEqDiff, Nat.reduceAdd, Nat.reduceMul, Nat.reduceSub, ↓reduceIte, Int.reduceEq, Int.reduceNe, Nat.reduceLeDiff, one, Value.cells, Int.reduceLE, Int.reduceLT, Int.reduceToNat, add_mk, reduceCtorEq, List.mem_range'_1, true_and, and_true, and_false, false_and, Nat.reduceLT, Nat.reduceLeDiff, tyF, h14, h5]
    have s6 := j1.size
    have s5 := hm5.size
    have hsm6 := hm6.size
    refine app_own (m := 1) (ty := 121) Try.underlying121 int64E rfl (by omega) (ho6.more hm7) hb7.cs rfl (by intro u hu; simp at hu; subst hu; rfl) (by simp only [maxLen]; omega) (by omega) (by omega) ?_
    intro A8 c8 w8 ho8 hg8 _
    have hbl := ho6.more hm7
    have hm8 : More w w8 := Below.mono (grown_below (a := w) (hbl.mono (by omega : w.heap.size ≤ p + 1)) (More.trans hm6 hm7) (by omega) hg8) (by omega)
    have hne : ∀ b, b ≤ p → some b ≠ (Value.slice A4 k c4).ownBlock := by
      intro b hb hh
      have := ownBlock_at.1 hh.symm
      have := hbl.atB_ge this
      omega
    have hb8 := grown_blk hg8 (j2.more hm7) (hne p (by omega))
    have hz8 := grown_blk hg8 (hz6.more hm7) (hne z (by omega))
    simp (config := {maxSteps := 1000000}) only [↓zvD, zvU, ↓up_apply, ↓hv_apply, ↓upO_some, ↓upO_none, ↓ev_tmp, ↓ev_const, ↓ev_func, ↓ev_global, init, Nat.reduceEqDiff, Nat.reduceAdd, Nat.reduceMul, Nat.reduceSub, ↓reduceIte, Int.reduceEq, Int.reduceNe, Nat.reduceLeDiff, one, Value.cells, Int.reduceLE, Int.reduceLT, Int.reduceToNat, add_mk, reduceCtorEq, List.mem_range'_1, true_and, and_true, and_false, false_and, Nat.reduceLT, Nat.reduceLeDiff, tyF, h14, h5, ek]
    have hAn : Bs w (adv A' c' 8 1) (l.drop (8 * (k + 1))) := by
      have := Cs.advB (k := 8) hA' (by omega : (l.drop (8 * k)).length ≤ c')
      rwa [List.drop_drop, show 8 * k + 8 = 8 * (k + 1) by omega] at this
    refine ⟨⟨?_, k + 1, A8, c8, adv A' c' 8 1, c' - 8, rfl, by omega, rfl, ?_, ?_, hAn, by omega, hz8, hm8⟩, by simp only [numOf]; omega⟩
    · repeat (first | exact Same.hv _ _ _ | refine Same.up (by simp) ?_)
    · rw [numsC_step l hk1, show ints ((numsC l).take k ++ [IntKind.i64.wrap (numAt l k)]) = ints ((numsC l).take k) ++ [.int .i64 (IntKind.i64.wrap (numAt l k))] by simp [ints]]
      exact ho8
    · rw [show 160 - 8 * (k + 1) = 160 - 8 * k - 8 by omega]
      exact hb8
  · obtain rfl : k = 20 := by omega
    rw [List.take_of_length_le (by rw [numsC_len]; omega)] at ho4
    refine call_ok Try.call131 (ref_of w4 0 20 c4 (numsC l) (numsC_len l) rfl A4 ho4.cs) ?_
    rintro _ w5 ⟨rfl, hm5⟩
    have hz5 := hz4.more hm5
    simp (config := {maxSteps := 1000000}) only [↓zvD, zvU, ↓up_apply, ↓hv_apply, ↓upO_some, ↓upO_none, ↓ev_tmp, ↓ev_const, ↓ev_func, ↓ev_global, init, Nat.reduceEqDiff, Nat.reduceAdd, Nat.reduceMul, Nat.reduceSub, ↓reduceIte, Int.reduceEq, Int.reduceNe, Nat.reduceLeDiff, one, Value.cells, Int.reduceLE, Int.reduceLT, Int.reduceToNat, add_mk, reduceCtorEq, List.mem_range'_1, true_and, and_true, and_false, false_and, Nat.reduceLT, Nat.reduceLeDiff, tyF, z49]
    have hm6 := more_alloc w5 (.cells (ints z20).toArray 84)
    have hb6 := Blk.new w5 84 (ints z20).toArray
    have s5 := hm5.size
    have sm4 := hm4.size
    have s6 := size_alloc w5 (.cells (ints z20).toArray 84)
    generalize w5.alloc (.cells (ints z20).toArray 84) = w6 at hm6 hb6 s6 ⊢
    rw [List.toList_toArray] at hb6
    refine st_all hb6 (by rw [List.size_toArray, ints_len, numsC_len]) (by rw [ints_len]; rfl) (by intro u hu; exact ints_one _ u (by simpa using hu)) fun w7 j1 j2 => ?_
    rw [List.toList_toArray] at j2
    have hz7 := j1.blk (hz5.more hm6) (by omega)
    have hm7 := j1.below ((hm4.trans hm5).trans hm6) (by omega)
    have hv7 := j2.all_eq 20 (by rw [ints_len, numsC_len])
    simp (config := {maxSteps := 1000000}) only [↓zvD, zvU, ↓up_apply, ↓hv_apply, ↓upO_some, ↓upO_none, ↓ev_tmp, ↓ev_const, ↓ev_func, ↓ev_global, init, Nat.reduceEqDiff, Nat.reduceAdd, Nat.reduceMul, Nat.reduceSub, ↓reduceIte, Int.reduceEq, Int.reduceNe, Nat.reduceLeDiff, one, Value.cells, Int.reduceLE, Int.reduceLT, Int.reduceToNat, add_mk, reduceCtorEq, List.mem_range'_1, true_and, and_true, and_false, false_and, Nat.reduceLT, Nat.reduceLeDiff, tyF, hv7]
    refine call_ok Try.call88 (ref_right26 w7 _ (numsC_len l)) ?_
    rintro _ w8 ⟨rfl, hm8⟩
    have hz8 := hz7.more hm8
    have hv8 := (j2.more hm8).all_eq 20 (by rw [ints_len, numsC_len])
    by_cases hr : rightM (numsC l)
    · rw [decide_eq_true hr]
      simp (config := {maxSteps := 1000000}) only [↓zvD, zvU, ↓up_apply, ↓hv_apply, ↓upO_some, ↓upO_none, ↓ev_tmp, ↓ev_const, ↓ev_func, ↓ev_global, init, Nat.reduceEqDiff, Nat.reduceAdd, Nat.reduceMul, Nat.reduceSub, ↓reduceIte, Int.reduceEq, Int.reduceNe, Nat.reduceLeDiff, one, Value.cells, Int.reduceLE, Int.reduceLT, Int.reduceToNat, add_mk, reduceCtorEq, List.mem_range'_1, true_and, and_true, and_false, false_and, Nat.reduceLT, Nat.reduceLeDiff, tyF, hv8]
      refine st_all hz8 (by rw [List.size_toArray, ints_len, numsC_len]) (by rw [ints_len]; rfl) (by intro u hu; exact ints_one _ u (by simpa using hu)) fun w9 i1 i2 => ?_
      rw [List.toList_toArray] at i2
      have hzv := i2.all_eq 20 (by rw [ints_len, numsC_len])
      simp (config := {maxSteps := 1000000}) only [↓zvD, zvU, ↓up_apply, ↓hv_apply, ↓upO_some, ↓upO_none, ↓ev_tmp, ↓ev_const, ↓ev_func, ↓ev_global, init, Nat.reduceEqDiff, Nat.reduceAdd, Nat.reduceMul, Nat.reduceSub, ↓reduceIte, Int.reduceEq, Int.reduceNe, Nat.reduceLeDiff, one, Value.cells, Int.reduceLE, Int.reduceLT, Int.reduceToNat, add_mk, reduceCtorEq, List.mem_range'_1, true_and, and_true, and_false, false_and, Nat.reduceLT, Nat.reduceLeDiff, tyF, hzv]
      refine ⟨?_, i1.below (More.trans hm7 hm8) (by omega)⟩
      unfold decC
      rw [if_pos hl, if_pos hr]
    · rw [decide_eq_false hr]
      simp (config := {maxSteps := 1000000}) only [↓zvD, zvU, ↓up_apply, ↓hv_apply, ↓upO_some, ↓upO_none, ↓ev_tmp, ↓ev_const, ↓ev_func, ↓ev_global, init, Nat.reduceEqDiff, Nat.reduceAdd, Nat.reduceMul, Nat.reduceSub, ↓reduceIte, Int.reduceEq, Int.reduceNe, Nat.reduceLeDiff, one, Value.cells, Int.reduceLE, Int.reduceLT, Int.reduceToNat, add_mk, reduceCtorEq, List.mem_range'_1, true_and, and_true, and_false, false_and, Nat.reduceLT, Nat.reduceLeDiff, tyF]
      rw [b49 w]
      simp (config := {maxSteps := 1000000}) only [↓zvD, zvU, ↓up_apply, ↓hv_apply, ↓upO_some, ↓upO_none, ↓ev_tmp, ↓ev_const, ↓ev_func, ↓ev_global, init, Nat.reduceEqDiff, Nat.reduceAdd, Nat.reduceMul, Nat.reduceSub, ↓reduceIte, Int.reduceEq, Int.reduceNe, Nat.reduceLeDiff, one, Value.cells, Int.reduceLE, Int.reduceLT, Int.reduceToNat, add_mk, reduceCtorEq, List.mem_range'_1, true_and, and_true, and_false, false_and, Nat.reduceLT, Nat.reduceLeDiff, tyF]
      rw [st_same_eq hz8 (by rw [ints_len]; rfl) (ints_one _)]
      have hzv := hz8.all_eq 20 (by rw [ints_len]; rfl)
      simp (config := {maxSteps := 1000000}) only [↓zvD, zvU, ↓up_apply, ↓hv_apply, ↓upO_some, ↓upO_none, ↓ev_tmp, ↓ev_const, ↓ev_func, ↓ev_global, init, Nat.reduceEqDiff, Nat.reduceAdd, Nat.reduceMul, Nat.reduceSub, ↓reduceIte, Int.reduceEq, Int.reduceNe, Nat.reduceLeDiff, one, Value.cells, Int.reduceLE, Int.reduceLT, Int.reduceToNat, add_mk, reduceCtorEq, List.mem_range'_1, true_and, and_true, and_false, false_and, Nat.reduceLT, Nat.reduceLeDiff, tyF, hzv]
      refine ⟨?_, More.trans hm7 hm8⟩
      unfold decC
      rw [if_pos hl, if_neg hr]
end Go.Proofs.Ytloiglnejffmkaa
