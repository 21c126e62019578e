/-
  Layer 29: stats' bytes.
-/
import Derived.Test.YtgbhgjghlnknjaaStatsA
import Derived.Test.YtgbhgjghlnknjaaKey
namespace Go.Proofs.Ytgbhgjghlnknjaa
open Go Go.RowKit Go.Proofs.RV
set_option linter.unusedSimpArgs false
set_option linter.unusedVariables false
set_option maxRecDepth 10000
set_option maxHeartbeats 4000000

theorem out_u64 (w : World) (B q : Nat) (A : Option Addr) (c : Nat) (l : List UInt8) (n : Int) (h : OutAt w B q A c l) (hl : l.length ≤ 900000) (hn : 0 ≤ n) (hB : B ≤ w.heap.size) :
    Ret Try.prog 60 #[.pointer (some ⟨q, 0, none⟩), .int .u64 n] w fun v w' => v = .tuple #[] ∧ OutR w B q A (l ++ numB n 8) w' := by
  refine ret_of Try.func60 rfl (by kernel_rfl) (Nat.le_of_ble_eq_true (by kernel_rfl)) ?_
  simp (config := {maxSteps := 1000000}) only [↓zvD, zvU, ↓up_apply, ↓hv_apply, ↓upO_some, ↓upO_none, ↓ev_tmp, ↓ev_const, ↓ev_func, ↓ev_global, init, Nat.reduceEqDiff, Nat.reduceAdd, Nat.reduceMul, Nat.reduceSub, ↓reduceIte, Int.reduceEq, Int.reduceNe, Nat.reduceLeDiff, one, Value.cells, Int.reduceLE, Int.reduceLT, Int.reduceToNat, add_mk, reduceCtorEq, tyF]
  refine call_ok Try.call85 (out_number w B q A c l n 8 h hl hn (by omega) hB) ?_
  rintro _ w1 ⟨rfl, h1⟩
  exact ⟨rfl, h1⟩
/-- stats' bytes -/
def encM : List Int → List UInt8
  | [] => []
  | n :: r => numB (countM n) 8 ++ encM r
theorem encM_len : ∀ s, (encM s).length = 8 * s.length
  | [] => rfl
  | n :: r => by rw [encM, List.length_append, numB_len, encM_len r, List.length_cons]; omega
theorem encM_append : ∀ a b, encM (a ++ b) = encM a ++ encM b
  | [], b => rfl
  | n :: r, b => by rw [List.cons_append, encM, encM, encM_append r b, List.append_assoc]
def EncJ (s : List Int) (w : World) (q N : Nat) (A3 : Option Addr) (v8 : Value) (w' : World) : Prop :=
  ∃ (k : Nat) (A' : Option Addr) (c' : Nat), v8 = .int .i64 k ∧ k ≤ 31 ∧ OutAt w' q q A' c' (encM (s.take k)) ∧ (∀ k, atB A' k → N ≤ k) ∧ N ≤ w'.heap.size ∧ Cs w' A3 (ptrs w.heap.size 31) ∧ Blk w' w.heap.size 65 (ints s) ∧ More w w'
theorem stats_encode (w : World) (s : List Int) (hs : s.length = 31) :
    Ret Try.prog 37 #[.agg (ints s).toArray] w fun v w' => ∃ A c, v = .slice A (encM s).length c ∧ Own w' w.heap.size 5 1 A (encM s).length c ((encM s).map byteV) ∧ More w w' := by
  refine ret_of Try.func37 rfl (by kernel_rfl) (Nat.le_of_ble_eq_true (by kernel_rfl)) ?_
  have hm1 := more_alloc w (.cells (ints s).toArray 65)
  have hb1 := Blk.new w 65 (ints s).toArray
  have s1 := size_alloc w (.cells (ints s).toArray 65)
  simp (config := {maxSteps := 1000000}) only [↓zvD, zvU, ↓up_apply, ↓hv_apply, ↓upO_some, ↓upO_none, ↓ev_tmp, ↓ev_const, ↓ev_func, ↓ev_global, init, Nat.reduceEqDiff, Nat.reduceAdd, Nat.reduceMul, Nat.reduceSub, ↓reduceIte, Int.reduceEq, Int.reduceNe, Nat.reduceLeDiff, one, Value.cells, Int.reduceLE, Int.reduceLT, Int.reduceToNat, add_mk, reduceCtorEq, tyF, zerOut]
  generalize w.alloc (.cells (ints s).toArray 65) = w1 at hm1 hb1 s1 ⊢
  rw [List.toList_toArray] at hb1
  have hm2 := more_alloc w1 (.cells #[.slice none 0 0] 105)
  have ho2 := out_made w1
  have s2 := size_alloc w1 (.cells #[.slice none 0 0] 105)
  generalize w1.alloc (.cells #[.slice none 0 0] 105) = w2 at hm2 ho2 s2 ⊢
  have hb2 := hb1.more hm2
  replace hm2 := hm1.trans hm2
  refine call_ok Try.call67 (stats_all w2 _ s hs hb2) ?_
  rintro _ w3 ⟨A3, c3, rfl, ho3, hm3⟩
  simp (config := {maxSteps := 1000000}) only [↓zvD, zvU, ↓up_apply, ↓hv_apply, ↓upO_some, ↓upO_none, ↓ev_tmp, ↓ev_const, ↓ev_func, ↓ev_global, init, Nat.reduceEqDiff, Nat.reduceAdd, Nat.reduceMul, Nat.reduceSub, ↓reduceIte, Int.reduceEq, Int.reduceNe, Nat.reduceLeDiff, one, Value.cells, Int.reduceLE, Int.reduceLT, Int.reduceToNat, add_mk, reduceCtorEq, tyF]
  obtain ⟨g3, e3, hg3, hg3'⟩ := ho3.at' (by omega)
  subst e3
  have hq : w.heap.size < w1.heap.size := by omega
  have hq2 : w1.heap.size < w2.heap.size := by omega
  refine loop_p [5, 8, 9, 10, 11, 12, 13, 14, 15, 16, 17, 18] (fun e w' => EncJ s w w1.heap.size w3.heap.size (some ⟨g3, 0, none⟩) (e 8) w') (fun e _ => 31 - (numOf (e 8)).toNat) ?_ ?_
  · exact ⟨0, none, 0, by simp only [hv_apply, up_apply, upO_some, upO_none, init, List.mem_cons, true_or, or_true, if_true, if_false, ↓reduceIte, Nat.reduceEqDiff, false_or, or_false, List.not_mem_nil, List.getElem?_cons_zero, List.getElem?_cons_succ, Option.getD_some] <;> rfl, by omega, ho2.more hm3, fun k hk => (atB_none k hk).elim, Nat.le_refl _, ho3.cs, hb2.more hm3, hm2.trans hm3⟩
  rintro v w4 ⟨k, A4, c4, h8, hk, ho4, hat4, hN4, hcs4, hb4, hm4⟩
  simp only [hv_apply, up_apply, upO_some, upO_none, init, List.mem_cons, true_or, or_true, if_true, if_false, ↓reduceIte, Nat.reduceEqDiff, false_or, or_false, List.not_mem_nil, List.getElem?_cons_zero, List.getElem?_cons_succ, Option.getD_some] at h8
  have ek : IntKind.i64.wrap ((k : Int) + 1) = ((k + 1 : Nat) : Int) := w64 (by omega) (by omega)
  have g0 : (0 : Int) ≤ (k : Int) := by omega
  simp (config := {maxSteps := 1000000}) only [↓zvD, zvU, ↓up_apply, ↓hv_apply, ↓upO_some, ↓upO_none, ↓ev_tmp, ↓ev_const, ↓ev_func, ↓ev_global, init, Nat.reduceEqDiff, Nat.reduceAdd, Nat.reduceMul, Nat.reduceSub, ↓reduceIte, Int.reduceEq, Int.reduceNe, Nat.reduceLeDiff, one, Value.cells, Int.reduceLE, Int.reduceLT, Int.reduceToNat, add_mk, reduceCtorEq, tyF, h8]
  refine ⟨fun h9 => ?_, fun h9 => ?_⟩
  · have hk31 : k < 31 := by omega
    have hc : w4.cell? ⟨g3, k, none⟩ = some (.pointer (some ⟨w.heap.size, k, none⟩)) := by
      obtain ⟨a, ha, hca⟩ := hcs4 k (.pointer (some ⟨w.heap.size, k, none⟩)) (by simp [ptrs, hk31])
      cases ha
      rw [add_mk, Nat.zero_add] at hca
      exact hca
    have hv := hb4.cell
    have hx := ints_at (s := s) (k := k) (by omega)
    simp (config := {maxSteps := 1000000}) only [↓zvD, zvU, ↓up_apply, ↓hv_apply, ↓upO_some, ↓upO_none, ↓ev_tmp, ↓ev_const, ↓ev_func, ↓ev_global, init, Nat.reduceEqDiff, Nat.reduceAdd, Nat.reduceMul, Nat.reduceSub, ↓reduceIte, Int.reduceEq, Int.reduceNe, Nat.reduceLeDiff, one, Value.cells, Int.reduceLE, Int.reduceLT, Int.reduceToNat, add_mk, reduceCtorEq, tyF, h8, g0, h9, hc, hv, hx, Int.toNat_natCast]
    refine call_ok Try.call70 (num_count w4 _) ?_
    rintro _ w5 ⟨rfl, rfl⟩
    have hr := countM_range (s.getD k 0)
    have eu : IntKind.u64.wrap (countM (s.getD k 0)) = countM (s.getD k 0) := wu64 hr.1 (by omega)
    have hel := encM_len (s.take k)
    have htl : (s.take k).length = k := by rw [List.length_take]; omega
    simp (config := {maxSteps := 1000000}) only [↓zvD, zvU, ↓up_apply, ↓hv_apply, ↓upO_some, ↓upO_none, ↓ev_tmp, ↓ev_const, ↓ev_func, ↓ev_global, init, Nat.reduceEqDiff, Nat.reduceAdd, Nat.reduceMul, Nat.reduceSub, ↓reduceIte, Int.reduceEq, Int.reduceNe, Nat.reduceLeDiff, one, Value.cells, Int.reduceLE, Int.reduceLT, Int.reduceToNat, add_mk, reduceCtorEq, tyF, h8, eu]
    have hB5 : w1.heap.size ≤ w5.heap.size := by omega
    refine call_ok Try.call60 (out_u64 w5 _ _ A4 c4 _ _ ho4 (by omega) hr.1 hB5) ?_
    rintro _ w6 ⟨rfl, A6, c6, ho6, hm6, hat6⟩
    have hb6 := out_keep ho4 hm6 hb4 hq
    have hM6 := out_more ho4 hm6 hm4 (by omega)
    simp (config := {maxSteps := 1000000}) only [↓zvD, zvU, ↓up_apply, ↓hv_apply, ↓upO_some, ↓upO_none, ↓ev_tmp, ↓ev_const, ↓ev_func, ↓ev_global, init, Nat.reduceEqDiff, Nat.reduceAdd, Nat.reduceMul, Nat.reduceSub, ↓reduceIte, Int.reduceEq, Int.reduceNe, Nat.reduceLeDiff, one, Value.cells, Int.reduceLE, Int.reduceLT, Int.reduceToNat, add_mk, reduceCtorEq, tyF, h8, ek]
    refine ⟨⟨?_, k + 1, A6, c6, rfl, by omega, ?_, ?_, ?_, ?_, hb6, hM6⟩, by simp only [numOf]; omega⟩
    · repeat (first | exact Same.hv _ _ _ | refine Same.up (by simp) ?_)
    · rw [List.take_succ_eq_append_getElem (by omega), encM_append]
      have e : s[k]'(by omega) = s.getD k 0 := by simp [show k < s.length by omega]
      rw [e, encM, encM, List.append_nil]
      exact ho6
    · intro j hj
      rcases hat6 j (.inr hj) with (h | h) | h
      · subst h
        have := ho6.2.2.2 _ hj
        exact absurd rfl this
      · exact hat4 j h
      · omega
    · exact Nat.le_trans hN4 hm6.size
    · refine hm6.cs hcs4 fun z hz hS => ?_
      cases hz
      rcases hS with h | h
      · simp only at h
        omega
      · have := hat4 _ h
        simp only at this
        omega
  · obtain rfl : k = 31 := by omega
    rw [List.take_of_length_le (by omega)] at ho4
    refine call_ok Try.call54 (out_bytes w4 _ _ A4 c4 _ ho4 (by rw [encM_len]; omega)) ?_
    rintro _ w5 ⟨A5, c5, rfl, ho5, hm5⟩
    simp (config := {maxSteps := 1000000}) only [↓zvD, zvU, ↓up_apply, ↓hv_apply, ↓upO_some, ↓upO_none, ↓ev_tmp, ↓ev_const, ↓ev_func, ↓ev_global, init, Nat.reduceEqDiff, Nat.reduceAdd, Nat.reduceMul, Nat.reduceSub, ↓reduceIte, Int.reduceEq, Int.reduceNe, Nat.reduceLeDiff, one, Value.cells, Int.reduceLE, Int.reduceLT, Int.reduceToNat, add_mk, reduceCtorEq, tyF]
    exact ⟨A5, c5, rfl, ho5.mono hm4.size, hm4.trans hm5⟩
end Go.Proofs.Ytgbhgjghlnknjaa
