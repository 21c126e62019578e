/-
  Layer 9: what inet.Parse and its reference come to.
-/
import Derived.Test.YtbknfmaefmbfdaaNetM
namespace Go.Proofs.Ytbknfmaefmbfdaa
open Go Go.RowKit Go.Proofs.RV
set_option linter.unusedSimpArgs false
set_option linter.unusedVariables false

set_option maxHeartbeats 1000000 in
theorem inet_two (w : World) (A : Option Addr) (l : List UInt8) (c : Nat) (i : Int) (hA : Bs w A l) (hl : l.length ≤ 281474976710656) (h0 : 0 ≤ i) (h1 : i + 1 < l.length) :
    Ret Try.prog 82 #[.slice A l.length c, .int .i64 i] w fun v w' => v = .int .i64 (two l i.toNat) ∧ More w w' := by
  refine ret_of Try.func82 rfl (by kernel_rfl) (by show 2 ≤ 18; omega) ?_
  simp only [↓rvD, miU, ↓up_apply, ↓hv_apply, ↓upO_some, ↓upO_none, ↓ev_tmp, ↓ev_const, ↓ev_func, ↓ev_global, init, Nat.reduceEqDiff, Nat.reduceAdd, Nat.reduceMul, Nat.reduceSub, ↓reduceIte, Int.reduceEq, Int.reduceNe, Nat.reduceLeDiff, one, Value.cells, Int.reduceLE, Int.reduceLT, Int.reduceToNat, add_mk, reduceCtorEq, ]
  refine draw_quiet mixed (by kernel_rfl) ?_
  simp only [↓rvD, ↓rqD, miU, ↓up_apply, ↓hv_apply, ↓upO_some, ↓upO_none, ↓ev_tmp, ↓ev_const, ↓ev_func, ↓ev_global, init, Nat.reduceEqDiff, Nat.reduceAdd, Nat.reduceMul, Nat.reduceSub, ↓reduceIte, Int.reduceEq, Int.reduceNe, Nat.reduceLeDiff, one, Value.cells, Int.reduceLE, Int.reduceLT, Int.reduceToNat, add_mk, reduceCtorEq,  Try.underlying31, cells5, Try.underlying5, Try.underlying3, Try.results82]
  have e1 : IntKind.i64.wrap (i + 1) = i + 1 := w64 (by omega) (by omega)
  have e2 : (i + 1).toNat = i.toNat + 1 := by omega
  rw [e1]
  refine ⟨h0, by omega, hA.idx h0 (by omega) fun _ => ⟨by omega, h1, hA.idx (by omega) h1 fun _ w' hw => ⟨?_, hw⟩⟩⟩
  have b1 := bt_nonneg l i.toNat
  have b2 := bt_lt l i.toNat
  have b3 := bt_nonneg l (i.toNat + 1)
  have b4 := bt_lt l (i.toNat + 1)
  rw [e2, w64_byte, w64_byte, shl8, w64 (by omega) (by omega), or_byte b1 (by omega) b3 b4]
  rfl

/-- the sum of all words -/
def wsum : List UInt8 → Int
  | a :: b :: r => (a.toNat : Int) * 256 + b.toNat + wsum r
  | _ => 0
/-- carries added below -/
def norm (s : Int) : Int := if s = 0 then 0 else (s - 1) % 65535 + 1
theorem wsum_nonneg : ∀ l, 0 ≤ wsum l
  | a :: b :: r => by have := wsum_nonneg r; unfold wsum; omega
  | [] => by unfold wsum; omega
  | [_] => by unfold wsum; omega
theorem wsum_le : ∀ l, wsum l ≤ 65535 * l.length
  | a :: b :: r => by
    have := wsum_le r
    have h1 := a.toNat_lt
    have h2 := b.toNat_lt
    unfold wsum
    simp only [List.length_cons]
    omega
  | [] => by unfold wsum; simp
  | [_] => by unfold wsum; simp
theorem wsum_drop {l : List UInt8} {k : Nat} (h : k + 1 < l.length) : wsum (l.drop k) = bt l k * 256 + bt l (k + 1) + wsum (l.drop (k + 2)) := by
  rw [List.drop_eq_getElem_cons (by omega), List.drop_eq_getElem_cons (h := h)]
  rw [wsum]
  simp only [bt, List.getD_eq_getElem?_getD, List.getElem?_eq_getElem (show k < l.length by omega), List.getElem?_eq_getElem h, Option.getD_some]
theorem wsum_end {l : List UInt8} {k : Nat} (h : l.length ≤ k + 1) : wsum (l.drop k) = 0 := by
  have : (l.drop k).length ≤ 1 := by simp; omega
  match hd : l.drop k, this with
  | [], _ => rfl
  | [_], _ => rfl
  | _ :: _ :: _, h => simp at h
theorem norm_step {s : Int} (h : 65535 < s) : norm (s / 65536 + s % 65536) = norm s := by
  unfold norm
  rw [if_neg (by omega), if_neg (by omega)]
  omega
set_option maxHeartbeats 1000000 in
theorem inet_sum (w : World) (A : Option Addr) (l : List UInt8) (c : Nat) (hA : Bs w A l) (hc : l.length ≤ c) (hl : l.length ≤ 1000000) :
    Ret Try.prog 83 #[.slice A l.length c] w fun v w' => v = .int .i64 (norm (wsum l)) ∧ More w w' := by
  refine ret_of Try.func83 rfl (by kernel_rfl) (by show 1 ≤ 21; omega) ?_
  simp only [↓rvD, miU, ↓up_apply, ↓hv_apply, ↓upO_some, ↓upO_none, ↓ev_tmp, ↓ev_const, ↓ev_func, ↓ev_global, init, Nat.reduceEqDiff, Nat.reduceAdd, Nat.reduceMul, Nat.reduceSub, ↓reduceIte, Int.reduceEq, Int.reduceNe, Nat.reduceLeDiff, one, Value.cells, Int.reduceLE, Int.reduceLT, Int.reduceToNat, add_mk, reduceCtorEq, ]
  have hw0 := wsum_nonneg l
  have hw1 := wsum_le l
  refine loop_p [0, 3, 4, 5, 6, 7, 8, 9, 10, 11, 12] (fun e w' => ∃ (k : Nat) (A' : Option Addr) (s : Int), e 0 = .slice A' (l.length - k) (c - k) ∧ Bs w' A' (l.drop k) ∧ k ≤ l.length ∧ e 3 = .int .i64 s ∧ 0 ≤ s ∧ s + wsum (l.drop k) = wsum l ∧ More w w') (fun e _ => lenOf (e 0)) ?_ ?_
  · exact ⟨0, A, 0, by simp [up_apply], by simpa using hA, by omega, by simp [up_apply], by omega, by simp, More.refl w⟩
  · rintro v w1 ⟨k, A', s, h0, hB, hk, h3, hs0, hs, hm⟩
    simp only [hv_apply, List.mem_cons, true_or, or_true, if_true, Nat.reduceEqDiff, false_or, List.not_mem_nil] at h0 h3
    have hw2 := wsum_nonneg (l.drop k)
    simp only [↓rvD, miU, ↓up_apply, ↓hv_apply, ↓upO_some, ↓upO_none, ↓ev_tmp, ↓ev_const, ↓ev_func, ↓ev_global, init, Nat.reduceEqDiff, Nat.reduceAdd, Nat.reduceMul, Nat.reduceSub, ↓reduceIte, Int.reduceEq, Int.reduceNe, Nat.reduceLeDiff, one, Value.cells, Int.reduceLE, Int.reduceLT, Int.reduceToNat, add_mk, reduceCtorEq,  h0, h3, Try.underlying31, cells5]
    refine ⟨fun h1 => ?_, fun h1 => ?_⟩
    · have hlen : (l.drop k).length = l.length - k := by simp
      refine call_ok Try.call82 (by have := inet_two w1 A' (l.drop k) (c - k) 0 hB (by simp; omega) (by omega) (by simp; omega); rw [hlen] at this; exact this) ?_
      rintro _ w2 ⟨rfl, hm2⟩
      have e1 : two (l.drop k) 0 = bt l k * 256 + bt l (k + 1) := by simp [two, bt_drop]
      have e2 := wsum_drop (l := l) (k := k) (by omega)
      have hw3 := wsum_nonneg (l.drop (k + 2))
      have b1 := bt_nonneg l k
      have b2 := bt_nonneg l (k + 1)
      simp only [↓rvD, miU, ↓up_apply, ↓hv_apply, ↓upO_some, ↓upO_none, ↓ev_tmp, ↓ev_const, ↓ev_func, ↓ev_global, init, Nat.reduceEqDiff, Nat.reduceAdd, Nat.reduceMul, Nat.reduceSub, ↓reduceIte, Int.reduceEq, Int.reduceNe, Nat.reduceLeDiff, one, Value.cells, Int.reduceLE, Int.reduceLT, Int.reduceToNat, add_mk, reduceCtorEq,  h0, h3, e1, Try.underlying31, cells5]
      refine ⟨by omega, ⟨?_, k + 2, adv A' (c - k) 2 1, s + (bt l k * 256 + bt l (k + 1)), by rw [Nat.sub_sub, Nat.sub_sub], ?_, by omega, by rw [w64 (by omega) (by omega)], by omega, by omega, hm.trans hm2⟩, by simp only [lenOf]; omega⟩
      · repeat (first | exact Same.hv _ _ _ | refine Same.up (by simp) ?_)
      · have := Cs.advB (k := 2) (hB.more hm2) (c := c - k) (by simp; omega)
        rwa [List.drop_drop] at this
    · skip
      have hend := wsum_end (l := l) (k := k) (by omega)
      have hsw : s = wsum l := by omega
      subst hsw
      refine loop_p [3, 13, 14, 15, 16, 17, 18, 19] (fun e w' => ∃ t : Int, e 3 = .int .i64 t ∧ 0 ≤ t ∧ t ≤ wsum l ∧ norm t = norm (wsum l) ∧ More w w') (fun e _ => (numOf (e 3)).toNat) ?_ ?_
      · exact ⟨wsum l, by simp [up_apply, hv_apply, h3], hw0, Int.le_refl _, rfl, hm⟩
      · rintro v2 w2 ⟨t, g3, ht0, ht1, htn, hm2⟩
        simp only [hv_apply, List.mem_cons, true_or, if_true] at g3
        simp only [↓rvD, miU, ↓up_apply, ↓hv_apply, ↓upO_some, ↓upO_none, ↓ev_tmp, ↓ev_const, ↓ev_func, ↓ev_global, init, Nat.reduceEqDiff, Nat.reduceAdd, Nat.reduceMul, Nat.reduceSub, ↓reduceIte, Int.reduceEq, Int.reduceNe, Nat.reduceLeDiff, one, Value.cells, Int.reduceLE, Int.reduceLT, Int.reduceToNat, add_mk, reduceCtorEq,  g3, Try.results83]
        refine ⟨fun h2 => ?_, fun h2 => ?_⟩
        · have e3 : t.fdiv (2 ^ min 16 IntKind.i64.bits) = t / 65536 := by
            rw [show min 16 IntKind.i64.bits = 16 from rfl, Int.fdiv_eq_ediv_of_nonneg _ (by omega)]
            rfl
          have e4 : bits .and .i64 t 65535 = t % 65536 := and_mask (k := .i64) 16 ht0 (by simp [IntKind.max, IntKind.signed, IntKind.bits]; omega) (by simp [IntKind.max, IntKind.signed, IntKind.bits])
          rw [e3, e4, w64 (by omega) (by omega)]
          refine ⟨⟨?_, t / 65536 + t % 65536, rfl, by omega, by omega, by rw [norm_step h2, htn], hm2⟩, by simp only [numOf]; omega⟩
          repeat (first | exact Same.hv _ _ _ | refine Same.up (by simp) ?_)
        · refine ⟨?_, hm2⟩
          have : norm t = t := by unfold norm; split <;> omega
          rw [← htn, this]
end Go.Proofs.Ytbknfmaefmbfdaa
