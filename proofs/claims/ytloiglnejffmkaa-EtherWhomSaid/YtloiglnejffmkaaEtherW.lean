/-
  Layer 8: EtherWhom.
-/
import Derived.Test.YtloiglnejffmkaaEtherR
import Derived.Test.YtloiglnejffmkaaXt
namespace Go.Proofs.Ytloiglnejffmkaa
open Go Go.RowKit Go.Proofs.RV
set_option linter.unusedSimpArgs false
set_option linter.unusedVariables false
set_option maxRecDepth 10000
set_option maxHeartbeats 4000000
theorem ethGo_tail {l l' : List UInt8} (hl : l'.length = l.length) (hb : ∀ i, 12 ≤ i → bt l' i = bt l i) : ∀ (r k : Nat), 12 ≤ k → ethGo l' r k = ethGo l r k := by
  have h2 : ∀ k, 12 ≤ k → two l' k = two l k := fun k hk => by unfold two; rw [hb k hk, hb (k + 1) (by omega)]
  intro r
  induction r with
  | zero =>
    intro k hk
    unfold ethGo
    rw [hl, h2 k hk]
  | succ r ih =>
    intro k hk
    unfold ethGo
    simp only [hl, h2 k hk, ih (k + 4) (by omega)]
theorem whom_same (whom l : List UInt8) (hw : whom.length = 12) (hl : 12 ≤ l.length) : etherM (whom ++ l.drop 12) = etherM l := by
  unfold etherM
  refine ethGo_tail (by simp [hw]; omega) (fun i hi => ?_) 2 12 (Nat.le_refl _)
  unfold bt
  rw [List.getD_eq_getElem?_getD, List.getD_eq_getElem?_getD, List.getElem?_append_right (by omega), List.getElem?_drop, hw, show 12 + (i - 12) = i by omega]
/-- bytes that do not lie in a Link -/
def ApartF (n : Nat) (L : List UInt8) (v : Value) (w : World) : Prop := ∃ A c, v = .slice A n c ∧ Bs w A L ∧ L.length = n ∧ n ≤ c ∧ ∀ x, A = some x → ∃ e cur, e ≠ 35 ∧ Blk w x.block e cur
def PtrF (B : Nat) (v : Value) (w : World) : Prop := ∃ p, v = .pointer (some ⟨p, 0, none⟩) ∧ B ≤ p ∧ ∃ cs, Blk w p 35 cs ∧ cs.length = 2
theorem ether_whom (w : World) (A : Option Addr) (l : List UInt8) (c : Nat) (whom : List UInt8) (hA : Bs w A l) (hc : l.length ≤ c) (hw : whom.length = 12) :
    Ret Try.prog 4 #[.slice A l.length c, .agg (whom.map byteV).toArray] w fun v w' => v = .bool true ∧ More w w' := by
  refine ret_of Try.func4 rfl (by kernel_rfl) (Nat.le_of_ble_eq_true (by kernel_rfl)) ?_
  have hm0 := more_alloc w (.cells (whom.map byteV).toArray 33)
  have hb0 := Blk.new w 33 (whom.map byteV).toArray
  have s0 := size_alloc w (.cells (whom.map byteV).toArray 33)
  simp (config := {maxSteps := 1000000}) only [↓zvN, zvU, ↓up_apply, ↓hv_apply, ↓upO_some, ↓upO_none, ↓ev_tmp, ↓ev_const, ↓ev_func, ↓ev_global, init, Nat.reduceEqDiff, Nat.reduceAdd, Nat.reduceMul, Nat.reduceSub, ↓reduceIte, Int.reduceEq, Int.reduceNe, Nat.reduceLeDiff, one, Value.cells, Int.reduceLE, Int.reduceLT, Int.reduceToNat, add_mk, reduceCtorEq, List.mem_range'_1, true_and, and_true, and_false, false_and, Nat.reduceLT, Nat.reduceLeDiff, tyF]
  generalize w.alloc (.cells (whom.map byteV).toArray 33) = w0 at hm0 hb0 s0 ⊢
  rw [List.toList_toArray] at hb0
  generalize hpp : w.heap.size = p at *
  refine call_ok Try.call22 (law08_awake w0) ?_
  rintro _ w1 ⟨rfl, hm1⟩
  simp (config := {maxSteps := 1000000}) only [↓zvN, zvU, ↓up_apply, ↓hv_apply, ↓upO_some, ↓upO_none, ↓ev_tmp, ↓ev_const, ↓ev_func, ↓ev_global, init, Nat.reduceEqDiff, Nat.reduceAdd, Nat.reduceMul, Nat.reduceSub, ↓reduceIte, Int.reduceEq, Int.reduceNe, Nat.reduceLeDiff, one, Value.cells, Int.reduceLE, Int.reduceLT, Int.reduceToNat, add_mk, reduceCtorEq, List.mem_range'_1, true_and, and_true, and_false, false_and, Nat.reduceLT, Nat.reduceLeDiff, tyF]
  have hm01 := hm0.trans hm1
  have idle : ∀ {K : Value → World → Prop}, (∀ w2, More w w2 → K (.bool true) w2) → callP Try.prog (Value.func (Fn.func 22) #[] #[]) #[] w1 K := by
    intro K hK
    refine call_ok Try.call22 (law08_awake w1) ?_
    rintro _ w2 ⟨rfl, hm2⟩
    exact hK w2 (hm01.trans hm2)
  refine ⟨fun h9 => ?_, fun h9 => ⟨fun h8 => ?_, fun h8 => ?_⟩⟩
  · refine idle fun w2 hm2 => ?_
    simp (config := {maxSteps := 1000000}) only [↓zvN, zvU, ↓up_apply, ↓hv_apply, ↓upO_some, ↓upO_none, ↓ev_tmp, ↓ev_const, ↓ev_func, ↓ev_global, init, Nat.reduceEqDiff, Nat.reduceAdd, Nat.reduceMul, Nat.reduceSub, ↓reduceIte, Int.reduceEq, Int.reduceNe, Nat.reduceLeDiff, one, Value.cells, Int.reduceLE, Int.reduceLT, Int.reduceToNat, add_mk, reduceCtorEq, List.mem_range'_1, true_and, and_true, and_false, false_and, Nat.reduceLT, Nat.reduceLeDiff, tyF]
    exact hm2
  · refine idle fun w2 hm2 => ?_
    simp (config := {maxSteps := 1000000}) only [↓zvN, zvU, ↓up_apply, ↓hv_apply, ↓upO_some, ↓upO_none, ↓ev_tmp, ↓ev_const, ↓ev_func, ↓ev_global, init, Nat.reduceEqDiff, Nat.reduceAdd, Nat.reduceMul, Nat.reduceSub, ↓reduceIte, Int.reduceEq, Int.reduceNe, Nat.reduceLeDiff, one, Value.cells, Int.reduceLE, Int.reduceLT, Int.reduceToNat, add_mk, reduceCtorEq, List.mem_range'_1, true_and, and_true, and_false, false_and, Nat.reduceLT, Nat.reduceLeDiff, tyF]
    exact hm2
  refine call_ok Try.call23 (ether_parse w1 A l c (hA.more hm01) (by omega)) ?_
  rintro _ w2 ⟨rfl, hm2⟩
  simp (config := {maxSteps := 1000000}) only [↓zvN, zvU, ↓up_apply, ↓hv_apply, ↓upO_some, ↓upO_none, ↓ev_tmp, ↓ev_const, ↓ev_func, ↓ev_global, init, Nat.reduceEqDiff, Nat.reduceAdd, Nat.reduceMul, Nat.reduceSub, ↓reduceIte, Int.reduceEq, Int.reduceNe, Nat.reduceLeDiff, one, Value.cells, Int.reduceLE, Int.reduceLT, Int.reduceToNat, add_mk, reduceCtorEq, List.mem_range'_1, true_and, and_true, and_false, false_and, Nat.reduceLT, Nat.reduceLeDiff, tyF, zerLink]
  refine link_var fun w3 hm3 hb3 s3 => ?_
  rw [s2_undef]
  have hm03 := (hm01.trans hm2).trans hm3
  have hb0' := ((hb0.more hm1).more hm2).more hm3
  have hA3 := hA.more hm03
  have hL := whom_same whom l hw (by omega)
  generalize hx : etherM l = x at *
  obtain ⟨xb, xa, xr⟩ := x
  simp only at hb3 ⊢
  generalize hqq : w2.heap.size = q at *
  have hp3 : p < w3.heap.size := hb0'.lt
  simp (config := {maxSteps := 1000000}) only [↓zvN, zvU, ↓up_apply, ↓hv_apply, ↓upO_some, ↓upO_none, ↓ev_tmp, ↓ev_const, ↓ev_func, ↓ev_global, init, Nat.reduceEqDiff, Nat.reduceAdd, Nat.reduceMul, Nat.reduceSub, ↓reduceIte, Int.reduceEq, Int.reduceNe, Nat.reduceLeDiff, one, Value.cells, Int.reduceLE, Int.reduceLT, Int.reduceToNat, add_mk, reduceCtorEq, List.mem_range'_1, true_and, and_true, and_false, false_and, Nat.reduceLT, Nat.reduceLeDiff, tyF]
  refine draw_finH 35 [.bool xb, .int .i64 xa] 10 [[], [], [1], [0, 1, 2], [0, 1, 2, 3], [0, 1, 2, 3, 4], [0, 1, 2, 3, 4, 5], [0, 1, 2, 3, 4, 5], [], [0, 1, 2, 3, 4, 5, 6, 8], [0, 1, 2, 3, 4, 5, 6, 7, 8, 9]]
    [(3, fun _ v w' => ApartF l.length (whom ++ l.drop 12) v w'), (4, fun _ v _ => v = .tuple #[.agg #[.bool xb, .int .i64 xa], .int .i64 xr]), (8, fun _ v w' => PtrF w3.heap.size v w'), (9, fun g _ w' => ∀ r, g[0]? = some (.pointer (some ⟨r, 0, none⟩)) → Blk w' r 35 [.bool xb, .int .i64 xa])] mixed (by kernel_rfl) (by kernel_rfl) ?_ ?_
  · intro y hy g v a b hab
    simp only [List.mem_cons, List.not_mem_nil, or_false] at hy
    rcases hy with rfl | rfl | rfl | rfl
    · rintro ⟨A', c', rfl, h1, h2, h3, h4⟩
      refine ⟨A', c', rfl, hab.cs h1 h4, h2, h3, fun x hx => ?_⟩
      obtain ⟨e, cur, h5, h6⟩ := h4 x hx
      exact ⟨e, cur, h5, hab.blk _ _ _ h5 h6⟩
    · exact fun h => h
    · rintro ⟨r, rfl, h1, h2⟩
      exact ⟨r, rfl, h1, hab.some h2⟩
    · intro h r hr
      exact hab.done (h r hr)
  have g12 : (12 : Nat) ≤ l.length := by omega
  simp (config := {maxSteps := 1000000}) only [↓zvN, zvU, ↓zqD, ↓h_cons, ↓hs_guard, ↓hs_none, ↓h_some, ↓hs_nil, ↓lookH_nil, ↓lookH_cons, ↓given_store, ↓up_apply, ↓hv_apply, ↓upO_some, ↓upO_none, ↓ev_tmp, ↓ev_const, ↓ev_func, ↓ev_global, init, Nat.reduceEqDiff, Nat.reduceAdd, Nat.reduceMul, Nat.reduceSub, ↓reduceIte, Int.reduceEq, Int.reduceNe, Nat.reduceLeDiff, one, Value.cells, Int.reduceLE, Int.reduceLT, Int.reduceToNat, add_mk, reduceCtorEq, List.mem_range'_1, true_and, and_true, and_false, false_and, Nat.reduceLT, Nat.reduceLeDiff, tyF, g12, hc]
  refine ⟨fun w4 hf => ?_, ?_⟩
  · have hp4 := hf.blk _ _ _ (by decide) hb0'
    have hA4 : Bs w4 A l := hA3.below hf.below (Nat.le_refl _)
    have hlen : (whom ++ l.drop 12).length = l.length := by simp [hw]; omega
    refine app_full (m := l.length - 12) (n := 12) Try.underlying22 byteE rfl hp4.cs (by simp [hw]) rfl (hA4.advB (k := 12) hc) (by simp) (byteV_one _) (by simp only [maxLen]; omega) (by omega) (fun h0 => ?_) fun c' w5 h0 ho5 hm5 => ?_
    · have e12 : l.length = 12 := by omega
      have el : l.drop 12 = [] := List.drop_of_length_le (by omega)
      simp (config := {maxSteps := 1000000}) only [↓zvN, zvU, ↓zqD, ↓h_cons, ↓hs_guard, ↓hs_none, ↓h_some, ↓hs_nil, ↓lookH_nil, ↓lookH_cons, ↓given_store, ↓up_apply, ↓hv_apply, ↓upO_some, ↓upO_none, ↓ev_tmp, ↓ev_const, ↓ev_func, ↓ev_global, init, Nat.reduceEqDiff, Nat.reduceAdd, Nat.reduceMul, Nat.reduceSub, ↓reduceIte, Int.reduceEq, Int.reduceNe, Nat.reduceLeDiff, one, Value.cells, Int.reduceLE, Int.reduceLT, Int.reduceToNat, add_mk, reduceCtorEq, List.mem_range'_1, true_and, and_true, and_false, false_and, Nat.reduceLT, Nat.reduceLeDiff, tyF]
      refine ⟨Fin.refl _ _ _ _, some ⟨p, 0, none⟩, 12, by rw [h0, e12], ?_, hlen, by omega, ?_⟩
      · rw [el, List.append_nil]; exact hp4.cs
      · intro x hx
        cases hx
        exact ⟨_, _, by decide, hp4⟩
    · simp (config := {maxSteps := 1000000}) only [↓zvN, zvU, ↓zqD, ↓h_cons, ↓hs_guard, ↓hs_none, ↓h_some, ↓hs_nil, ↓lookH_nil, ↓lookH_cons, ↓given_store, ↓up_apply, ↓hv_apply, ↓upO_some, ↓upO_none, ↓ev_tmp, ↓ev_const, ↓ev_func, ↓ev_global, init, Nat.reduceEqDiff, Nat.reduceAdd, Nat.reduceMul, Nat.reduceSub, ↓reduceIte, Int.reduceEq, Int.reduceNe, Nat.reduceLeDiff, one, Value.cells, Int.reduceLE, Int.reduceLT, Int.reduceToNat, add_mk, reduceCtorEq, List.mem_range'_1, true_and, and_true, and_false, false_and, Nat.reduceLT, Nat.reduceLeDiff, tyF]
      have hle := hf.below.size
      refine ⟨Fin.of_more hm5 hle, _, c', by rw [show 12 + (l.length - 12) = l.length by omega], ?_, hlen, by have := ho5.le; omega, ?_⟩
      · have := ho5.cs
        rw [← List.map_append] at this
        exact this
      · intro x hx
        cases hx
        rcases ho5.blk with ⟨h, _⟩ | ⟨g, hg, _, _, cur, hb⟩
        · cases h
        · cases hg
          exact ⟨_, cur, by decide, hb⟩
  rintro _ ⟨w4, hf4, A4, c4, rfl, _⟩
  simp (config := {maxSteps := 1000000}) only [↓zvN, zvU, ↓zqD, ↓h_cons, ↓hs_guard, ↓hs_none, ↓h_some, ↓hs_nil, ↓lookH_nil, ↓lookH_cons, ↓given_store, ↓up_apply, ↓hv_apply, ↓upO_some, ↓upO_none, ↓ev_tmp, ↓ev_const, ↓ev_func, ↓ev_global, init, Nat.reduceEqDiff, Nat.reduceAdd, Nat.reduceMul, Nat.reduceSub, ↓reduceIte, Int.reduceEq, Int.reduceNe, Nat.reduceLeDiff, one, Value.cells, Int.reduceLE, Int.reduceLT, Int.reduceToNat, add_mk, reduceCtorEq, List.mem_range'_1, true_and, and_true, and_false, false_and, Nat.reduceLT, Nat.reduceLeDiff, tyF]
  refine ⟨fun w5 hf5 hd5 => ?_, ?_⟩
  · obtain ⟨A5, c5, e5, hB5, hl5, _, _⟩ := hd5
    cases e5
    have hpar := ether_parse w5 A4 (whom ++ l.drop 12) c4 hB5 (by omega)
    rw [hl5] at hpar
    refine call_ok Try.call23 hpar ?_
    rintro _ w6 ⟨rfl, hm6⟩
    rw [hL]
    simp (config := {maxSteps := 1000000}) only [↓zvN, zvU, ↓zqD, ↓h_cons, ↓hs_guard, ↓hs_none, ↓h_some, ↓hs_nil, ↓lookH_nil, ↓lookH_cons, ↓given_store, ↓up_apply, ↓hv_apply, ↓upO_some, ↓upO_none, ↓ev_tmp, ↓ev_const, ↓ev_func, ↓ev_global, init, Nat.reduceEqDiff, Nat.reduceAdd, Nat.reduceMul, Nat.reduceSub, ↓reduceIte, Int.reduceEq, Int.reduceNe, Nat.reduceLeDiff, one, Value.cells, Int.reduceLE, Int.reduceLT, Int.reduceToNat, add_mk, reduceCtorEq, List.mem_range'_1, true_and, and_true, and_false, false_and, Nat.reduceLT, Nat.reduceLeDiff, tyF]
    exact Fin.of_more hm6 hf5.below.size
  rintro _ ⟨w5, hf5, _, rfl⟩
  simp (config := {maxSteps := 1000000}) only [↓zvN, zvU, ↓zqD, ↓h_cons, ↓hs_guard, ↓hs_none, ↓h_some, ↓hs_nil, ↓lookH_nil, ↓lookH_cons, ↓given_store, ↓up_apply, ↓hv_apply, ↓upO_some, ↓upO_none, ↓ev_tmp, ↓ev_const, ↓ev_func, ↓ev_global, init, Nat.reduceEqDiff, Nat.reduceAdd, Nat.reduceMul, Nat.reduceSub, ↓reduceIte, Int.reduceEq, Int.reduceNe, Nat.reduceLeDiff, one, Value.cells, Int.reduceLE, Int.reduceLT, Int.reduceToNat, add_mk, reduceCtorEq, List.mem_range'_1, true_and, and_true, and_false, false_and, Nat.reduceLT, Nat.reduceLeDiff, tyF, zerLink]
  refine ⟨fun w6 hf6 => ?_, ?_⟩
  · have hle := hf6.below.size
    have hmm := more_alloc w6 (.cells #[.bool false, .int .i64 0] 35)
    exact ⟨Fin.of_more hmm hle, w6.heap.size, rfl, hle, _, Blk.new .., rfl⟩
  rintro _ ⟨w6, hf6, _, r, rfl, hr, _⟩
  simp (config := {maxSteps := 1000000}) only [↓zvN, zvU, ↓zqD, ↓h_cons, ↓hs_guard, ↓hs_none, ↓h_some, ↓hs_nil, ↓lookH_nil, ↓lookH_cons, ↓given_store, ↓up_apply, ↓hv_apply, ↓upO_some, ↓upO_none, ↓ev_tmp, ↓ev_const, ↓ev_func, ↓ev_global, init, Nat.reduceEqDiff, Nat.reduceAdd, Nat.reduceMul, Nat.reduceSub, ↓reduceIte, Int.reduceEq, Int.reduceNe, Nat.reduceLeDiff, one, Value.cells, Int.reduceLE, Int.reduceLT, Int.reduceToNat, add_mk, reduceCtorEq, List.mem_range'_1, true_and, and_true, and_false, false_and, Nat.reduceLT, Nat.reduceLeDiff, tyF]
  refine ⟨fun w7 hf7 hd7 => ?_, ?_⟩
  · obtain ⟨r', er, _, cs, hcs, hcl⟩ := hd7.2
    cases er
    refine st_all hcs rfl hcl (by intro u hu; simp at hu; rcases hu with rfl | rfl <;> rfl) fun w8 k1 k2 => ?_
    refine ⟨Fin.of_wr k1 hcs k2 hr, fun r1 h1 => ?_⟩
    cases h1
    exact k2
  rintro _ ⟨w7, hf7, _, _⟩
  rw [stop1]
  simp (config := {maxSteps := 1000000}) only [↓zvN, zvU, ↓zqD, ↓h_cons, ↓hs_guard, ↓hs_none, ↓h_some, ↓hs_nil, ↓lookH_nil, ↓lookH_cons, ↓given_store, ↓up_apply, ↓hv_apply, ↓upO_some, ↓upO_none, ↓ev_tmp, ↓ev_const, ↓ev_func, ↓ev_global, init, Nat.reduceEqDiff, Nat.reduceAdd, Nat.reduceMul, Nat.reduceSub, ↓reduceIte, Int.reduceEq, Int.reduceNe, Nat.reduceLeDiff, one, Value.cells, Int.reduceLE, Int.reduceLT, Int.reduceToNat, add_mk, reduceCtorEq, List.mem_range'_1, true_and, and_true, and_false, false_and, Nat.reduceLT, Nat.reduceLeDiff, tyF]
  intro w8 hf8 hd8
  have hd8 := hd8.2.2
  have hb8 := hd8 r rfl
  have hq8 := (hf8.fin q _ hb3).resolve_right (fun h => by have := hb3.lt; omega)
  have hv1 := hq8.all_eq 2 rfl
  have hv2 := hb8.all_eq 2 rfl
  have hm8 : More w w8 := hm03.trans hf8.below
  simp (config := {maxSteps := 1000000}) only [↓zvN, zvU, ↓up_apply, ↓hv_apply, ↓upO_some, ↓upO_none, ↓ev_tmp, ↓ev_const, ↓ev_func, ↓ev_global, init, Nat.reduceEqDiff, Nat.reduceAdd, Nat.reduceMul, Nat.reduceSub, ↓reduceIte, Int.reduceEq, Int.reduceNe, Nat.reduceLeDiff, one, Value.cells, Int.reduceLE, Int.reduceLT, Int.reduceToNat, add_mk, reduceCtorEq, List.mem_range'_1, true_and, and_true, and_false, false_and, Nat.reduceLT, Nat.reduceLeDiff, tyF, p_nil, hv1, hv2, link_eq _ _ _ _ w, beq_self_eq_true, Bool.and_self, decide_true]
  exact hm8
end Go.Proofs.Ytloiglnejffmkaa
