/-
  Layer 9: the reference's sum.
-/
import Derived.Test.YtbknfmaefmbfdaaNet
namespace Go.Proofs.Ytbknfmaefmbfdaa
open Go Go.RowKit Go.Proofs.RV
set_option linter.unusedSimpArgs false
set_option linter.unusedVariables false

set_option maxHeartbeats 1000000 in
theorem ref_two (w : World) (A : Option Addr) (l : List UInt8) (c : Nat) (i : Int) (hA : Bs w A l) (hl : l.length ≤ 281474976710656) (h0 : 0 ≤ i) (h1 : i + 1 < l.length) :
    Ret Try.prog 88 #[.slice A l.length c, .int .i64 i] w fun v w' => v = .int .i64 (two l i.toNat) ∧ More w w' := by
  refine ret_of Try.func88 rfl (by kernel_rfl) (by show 2 ≤ 18; omega) ?_
  simp only [↓rvD, miU, ↓up_apply, ↓hv_apply, ↓upO_some, ↓upO_none, ↓ev_tmp, ↓ev_const, ↓ev_func, ↓ev_global, init, Nat.reduceEqDiff, Nat.reduceAdd, Nat.reduceMul, Nat.reduceSub, ↓reduceIte, Int.reduceEq, Int.reduceNe, Nat.reduceLeDiff, one, Value.cells, Int.reduceLE, Int.reduceLT, Int.reduceToNat, add_mk, reduceCtorEq,  List.take_succ_cons, List.take_zero, List.drop_succ_cons, List.drop_zero, Try.underlying31, Try.underlying5, Try.underlying3, Try.underlying4, cells5, cells3, cells4, cells68, cells31, Try.results88, Try.results89]
  refine draw_quiet mixed (by kernel_rfl) ?_
  simp only [↓rvD, ↓rqD, miU, ↓up_apply, ↓hv_apply, ↓upO_some, ↓upO_none, ↓ev_tmp, ↓ev_const, ↓ev_func, ↓ev_global, init, Nat.reduceEqDiff, Nat.reduceAdd, Nat.reduceMul, Nat.reduceSub, ↓reduceIte, Int.reduceEq, Int.reduceNe, Nat.reduceLeDiff, one, Value.cells, Int.reduceLE, Int.reduceLT, Int.reduceToNat, add_mk, reduceCtorEq,  List.take_succ_cons, List.take_zero, List.drop_succ_cons, List.drop_zero, Try.underlying31, Try.underlying5, Try.underlying3, Try.underlying4, cells5, cells3, cells4, cells68, cells31, Try.results88, Try.results89]
  have e1 : IntKind.i64.wrap (i + 1) = i + 1 := w64 (by omega) (by omega)
  have e2 : (i + 1).toNat = i.toNat + 1 := by omega
  rw [e1]
  refine ⟨h0, by omega, hA.idx h0 (by omega) fun _ => ⟨by omega, h1, hA.idx (by omega) h1 fun _ w' hw => ⟨?_, hw⟩⟩⟩
  have b1 := bt_nonneg l i.toNat
  have b2 := bt_lt l i.toNat
  have b3 := bt_nonneg l (i.toNat + 1)
  have b4 := bt_lt l (i.toNat + 1)
  rw [e2, w64_byte, w64_byte, w64 (x := bt l i.toNat * 256) (by omega) (by omega), w64 (by omega) (by omega)]
  rfl
/-- round of the reference's sum -/
def SumJ (l : List UInt8) (w : World) (v4 v3 : Value) (w' : World) : Prop := ∃ (k : Nat) (s : Int), v4 = .int .i64 k ∧ v3 = .int .i64 s ∧ 0 ≤ s ∧ s ≤ 65535 ∧ k ≤ l.length + 1 ∧ norm (s + wsum (l.drop k)) = norm (wsum l) ∧ More w w'
set_option maxHeartbeats 1000000 in
theorem ref_sum (w : World) (A : Option Addr) (l : List UInt8) (c : Nat) (hA : Bs w A l) (hl : l.length ≤ 1000000) :
    Ret Try.prog 89 #[.slice A l.length c] w fun v w' => v = .int .i64 (norm (wsum l)) ∧ More w w' := by
  refine ret_of Try.func89 rfl (by kernel_rfl) (by show 1 ≤ 22; omega) ?_
  simp only [↓rvD, miU, ↓up_apply, ↓hv_apply, ↓upO_some, ↓upO_none, ↓ev_tmp, ↓ev_const, ↓ev_func, ↓ev_global, init, Nat.reduceEqDiff, Nat.reduceAdd, Nat.reduceMul, Nat.reduceSub, ↓reduceIte, Int.reduceEq, Int.reduceNe, Nat.reduceLeDiff, one, Value.cells, Int.reduceLE, Int.reduceLT, Int.reduceToNat, add_mk, reduceCtorEq,  List.take_succ_cons, List.take_zero, List.drop_succ_cons, List.drop_zero, Try.underlying31, Try.underlying5, Try.underlying3, Try.underlying4, cells5, cells3, cells4, cells68, cells31, Try.results88, Try.results89]
  have hw0 := wsum_nonneg l
  have hw1 := wsum_le l
  refine loop_p [3, 4, 5, 6, 7, 8, 9, 10, 11, 12, 13, 14, 15, 16, 17, 18, 19, 20] (fun e w' => SumJ l w (e 4) (e 3) w') (fun e _ => l.length + 2 - (numOf (e 4)).toNat) ?_ ?_
  · exact ⟨0, 0, by simp [up_apply], by simp [up_apply], by omega, by omega, by omega, by simp, More.refl w⟩
  · rintro v w1 ⟨k, s, h4, h3, hs0, hs1, hk, hs, hm⟩
    simp only [hv_apply, up_apply, upO_some, upO_none, init, List.mem_cons, true_or, or_true, if_true, if_false, ↓reduceIte, Nat.reduceEqDiff, false_or, or_false, List.not_mem_nil, List.getElem?_cons_zero, List.getElem?_cons_succ, Option.getD_some] at h3 h4
    have hw2 := wsum_nonneg (l.drop k)
    simp only [↓rvD, miU, ↓up_apply, ↓hv_apply, ↓upO_some, ↓upO_none, ↓ev_tmp, ↓ev_const, ↓ev_func, ↓ev_global, init, Nat.reduceEqDiff, Nat.reduceAdd, Nat.reduceMul, Nat.reduceSub, ↓reduceIte, Int.reduceEq, Int.reduceNe, Nat.reduceLeDiff, one, Value.cells, Int.reduceLE, Int.reduceLT, Int.reduceToNat, add_mk, reduceCtorEq,  List.take_succ_cons, List.take_zero, List.drop_succ_cons, List.drop_zero, Try.underlying31, Try.underlying5, Try.underlying3, Try.underlying4, cells5, cells3, cells4, cells68, cells31, Try.results88, Try.results89, h3, h4]
    have ek : IntKind.i64.wrap ((k : Int) + 1) = (k : Int) + 1 := w64 (by omega) (by omega)
    rw [ek]
    refine ⟨fun h1 => ?_, fun h1 => ?_⟩
    · refine call_ok Try.call88 (ref_two w1 A l c k (hA.more hm) (by omega) (by omega) (by omega)) ?_
      rintro _ w2 ⟨rfl, hm2⟩
      rw [Int.toNat_natCast]
      have e2 := wsum_drop (l := l) (k := k) (by omega)
      have t0 : 0 ≤ two l k ∧ two l k < 65536 := two_range l k
      have e3 : two l k = bt l k * 256 + bt l (k + 1) := rfl
      have hw3 := wsum_nonneg (l.drop (k + 2))
      have ek2 : IntKind.i64.wrap ((k : Int) + 2) = ((k + 2 : Nat) : Int) := w64 (by omega) (by omega)
      have es : IntKind.i64.wrap (s + two l k) = s + two l k := w64 (by omega) (by omega)
      simp only [↓rvD, miU, ↓up_apply, ↓hv_apply, ↓upO_some, ↓upO_none, ↓ev_tmp, ↓ev_const, ↓ev_func, ↓ev_global, init, Nat.reduceEqDiff, Nat.reduceAdd, Nat.reduceMul, Nat.reduceSub, ↓reduceIte, Int.reduceEq, Int.reduceNe, Nat.reduceLeDiff, one, Value.cells, Int.reduceLE, Int.reduceLT, Int.reduceToNat, add_mk, reduceCtorEq,  List.take_succ_cons, List.take_zero, List.drop_succ_cons, List.drop_zero, Try.underlying31, Try.underlying5, Try.underlying3, Try.underlying4, cells5, cells3, cells4, cells68, cells31, Try.results88, Try.results89, h3, h4, es, ek2]
      refine ⟨fun h5 => ?_, fun h5 => ?_⟩
      · rw [w64 (x := s + two l k - 65535) (by omega) (by omega)]
        refine ⟨⟨?_, k + 2, s + two l k - 65535, rfl, rfl, by omega, by omega, by omega, ?_, hm.trans hm2⟩, ?_⟩
        · repeat (first | exact Same.hv _ _ _ | refine Same.up (by simp) ?_)
        · rw [← hs, e2, ← e3]
          unfold norm
          rw [if_neg (show ¬ s + (two l k + wsum (l.drop (k + 2))) = 0 by omega), if_neg (by omega)]
          omega
        · simp only [numOf]; omega
      · refine ⟨⟨?_, k + 2, s + two l k, rfl, rfl, by omega, by omega, by omega, ?_, hm.trans hm2⟩, ?_⟩
        · repeat (first | exact Same.hv _ _ _ | refine Same.up (by simp) ?_)
        · rw [← hs, e2, ← e3]
          congr 1
          omega
        · simp only [numOf]; omega
    · refine ⟨?_, hm⟩
      rw [wsum_end (by omega)] at hs
      rw [← hs, Int.add_zero]
      unfold norm
      split
      · congr 1
      · congr 1; omega
end Go.Proofs.Ytbknfmaefmbfdaa
