/-
  Layer 10: Inet6Plain.
-/
import Derived.Test.YtejigcfdggkhgaaLaw10
namespace Go.Proofs.Ytejigcfdggkhgaa
open Go Go.RowKit Go.Proofs.RV
set_option linter.unusedSimpArgs false
set_option linter.unusedVariables false
set_option maxRecDepth 10000
set_option maxHeartbeats 4000000

def plain6 (p : Int) (n : Nat) : List UInt8 := [111, 1, 2, 3, u8 ((n : Int) / 256), u8 ((n : Int) % 256), u8 p, 9]
theorem plain6_parse (p : Int) (whom l : List UInt8) (hp : 0 ≤ p ∧ p < 256) (hm : more6 p = false) (hw : whom.length = 32) (hl : l.length ≤ 300) :
    why6 (plain6 p l.length ++ whom ++ l) = 0 ∧ parse6 (plain6 p l.length ++ whom ++ l) = ⟨p, whom.take 16, whom.drop 16, l, true⟩ := by
  have hlen : (plain6 p l.length ++ whom ++ l).length = 40 + l.length := by simp [plain6, hw]; omega
  have b0 : bt (plain6 p l.length ++ whom ++ l) 0 = 111 := rfl
  have b4 : bt (plain6 p l.length ++ whom ++ l) 4 = (l.length : Int) / 256 := by
    show ((u8 ((l.length : Int) / 256)).toNat : Int) = _
    exact u8_toNat (by omega) (by omega)
  have b5 : bt (plain6 p l.length ++ whom ++ l) 5 = (l.length : Int) % 256 := by
    show ((u8 ((l.length : Int) % 256)).toNat : Int) = _
    exact u8_toNat (by omega) (by omega)
  have b6 : bt (plain6 p l.length ++ whom ++ l) 6 = p := by
    show ((u8 p).toNat : Int) = _
    exact u8_toNat hp.1 hp.2
  have t4 : two (plain6 p l.length ++ whom ++ l) 4 = l.length := by
    show bt (plain6 p l.length ++ whom ++ l) 4 * 256 + bt (plain6 p l.length ++ whom ++ l) 5 = _
    rw [b4, b5]
    omega
  have hd : (plain6 p l.length ++ whom).length = 40 := by simp [plain6, hw]
  have hbody : ((plain6 p l.length ++ whom ++ l).take (40 + (l.length : Int)).toNat).drop 40 = l := by
    rw [show (40 + (l.length : Int)).toNat = (plain6 p l.length ++ whom ++ l).length by omega, List.take_length, ← hd, List.drop_left]
  have hwalk : walk6 (plain6 p l.length ++ whom ++ l) = (0, p, l, true) := by
    unfold walk6
    rw [if_neg (by omega), b0, if_neg (by decide), t4, if_neg (by omega), b6, hbody, ]
    unfold go6
    rw [hm]
    rfl
  have hw0 : why6 (plain6 p l.length ++ whom ++ l) = 0 := by unfold why6; rw [hwalk]
  refine ⟨hw0, ?_⟩
  unfold parse6
  rw [if_pos hw0, hwalk]
  have e8 : (plain6 p l.length).length = 8 := rfl
  have d8 : (plain6 p l.length ++ whom ++ l).drop 8 = whom ++ l := by rw [List.append_assoc, ← e8, List.drop_left]
  have d24 : (plain6 p l.length ++ whom ++ l).drop 24 = whom.drop 16 ++ l := by
    rw [show 24 = 8 + 16 from rfl, ← List.drop_drop, d8, List.drop_append_of_le_length (by omega)]
  rw [d8, d24, List.take_append_of_le_length (by omega), List.take_append_of_le_length (by rw [List.length_drop]; omega), List.take_of_length_le (l := whom.drop 16) (by rw [List.length_drop]; omega)]
theorem blk_bs {w : World} {b e i : Nat} {cs : List Value} {x : List UInt8} (h : Blk w b e cs) (hx : (cs.drop i).take x.length = x.map byteV) : Bs w (some ⟨b, i, none⟩) x := by
  intro j v hj
  refine ⟨_, rfl, ?_⟩
  rw [add_mk, h.cell]
  rw [← hx, List.getElem?_take] at hj
  split at hj
  · rw [List.getElem?_drop] at hj
    exact hj
  · cases hj
theorem inet6_plain (w : World) (A : Option Addr) (l : List UInt8) (c : Nat) (p : Int) (whom : List UInt8) (hA : Bs w A l) (hp : 0 ≤ p ∧ p < 256) (hw : whom.length = 32) :
    Ret Try.prog 9 #[.slice A l.length c, .int .u8 p, .agg (whom.map byteV).toArray] w fun v w' => v = .bool true ∧ More w w' := by
  refine ret_of Try.func9 rfl (by kernel_rfl) (Nat.le_of_ble_eq_true (by kernel_rfl)) ?_
  have hma := more_alloc w (.cells (whom.map byteV).toArray 47)
  have hba := Blk.new w 47 (whom.map byteV).toArray
  simp (config := {maxSteps := 1000000}) only [↓zvD, zvU, ↓up_apply, ↓hv_apply, ↓upO_some, ↓upO_none, ↓ev_tmp, ↓ev_const, ↓ev_func, ↓ev_global, init, Nat.reduceEqDiff, Nat.reduceAdd, Nat.reduceMul, Nat.reduceSub, ↓reduceIte, Int.reduceEq, Int.reduceNe, Nat.reduceLeDiff, one, Value.cells, Int.reduceLE, Int.reduceLT, Int.reduceToNat, add_mk, reduceCtorEq, tyF]
  generalize w.alloc (.cells (whom.map byteV).toArray 47) = wa at hma hba ⊢
  refine call_ok Try.call26 (law10_awake wa) ?_
  rintro _ w1 ⟨rfl, hm1⟩
  have hm1 := hma.trans hm1
  have hb1 := hba.more ‹_›
  have skip : callP Try.prog (.func (.func 26) #[] #[]) #[] w1 (fun v w' => v = .bool true ∧ More w w') :=
    call_ok Try.call26 (law10_awake w1) fun v w2 ⟨hv, hm2⟩ => ⟨hv, hm1.trans hm2⟩
  cases hmo : more6 p with
  | true => 
    have hcase : p = 0 ∨ p = 43 ∨ p = 60 ∨ p = 44 := by simpa [more6, or_assoc] using hmo
    rcases hcase with rfl | rfl | rfl | rfl
    all_goals
      simp (config := {maxSteps := 1000000}) only [↓zvD, zvU, ↓up_apply, ↓hv_apply, ↓upO_some, ↓upO_none, ↓ev_tmp, ↓ev_const, ↓ev_func, ↓ev_global, init, Nat.reduceEqDiff, Nat.reduceAdd, Nat.reduceMul, Nat.reduceSub, ↓reduceIte, Int.reduceEq, Int.reduceNe, Nat.reduceLeDiff, one, Value.cells, Int.reduceLE, Int.reduceLT, Int.reduceToNat, add_mk, reduceCtorEq, tyF]
      refine ⟨fun _ => ?_, fun _ => ?_⟩
      · refine call_ok Try.call26 (law10_awake w1) ?_
        rintro _ w2 ⟨rfl, hm2⟩
        simp (config := {maxSteps := 1000000}) only [↓zvD, zvU, ↓up_apply, ↓hv_apply, ↓upO_some, ↓upO_none, ↓ev_tmp, ↓ev_const, ↓ev_func, ↓ev_global, init, Nat.reduceEqDiff, Nat.reduceAdd, Nat.reduceMul, Nat.reduceSub, ↓reduceIte, Int.reduceEq, Int.reduceNe, Nat.reduceLeDiff, one, Value.cells, Int.reduceLE, Int.reduceLT, Int.reduceToNat, add_mk, reduceCtorEq, tyF]
        exact hm1.trans hm2
      · refine call_ok Try.call26 (law10_awake w1) ?_
        rintro _ w2 ⟨rfl, hm2⟩
        simp (config := {maxSteps := 1000000}) only [↓zvD, zvU, ↓up_apply, ↓hv_apply, ↓upO_some, ↓upO_none, ↓ev_tmp, ↓ev_const, ↓ev_func, ↓ev_global, init, Nat.reduceEqDiff, Nat.reduceAdd, Nat.reduceMul, Nat.reduceSub, ↓reduceIte, Int.reduceEq, Int.reduceNe, Nat.reduceLeDiff, one, Value.cells, Int.reduceLE, Int.reduceLT, Int.reduceToNat, add_mk, reduceCtorEq, tyF]
        exact hm1.trans hm2
  | false =>
    have hcase : ¬ p = 0 ∧ ¬ p = 43 ∧ ¬ p = 60 ∧ ¬ p = 44 := by simpa [more6, and_assoc] using hmo
    obtain ⟨n1, n2, n3, n4⟩ := hcase
    simp (config := {maxSteps := 1000000}) only [↓zvD, zvU, ↓up_apply, ↓hv_apply, ↓upO_some, ↓upO_none, ↓ev_tmp, ↓ev_const, ↓ev_func, ↓ev_global, init, Nat.reduceEqDiff, Nat.reduceAdd, Nat.reduceMul, Nat.reduceSub, ↓reduceIte, Int.reduceEq, Int.reduceNe, Nat.reduceLeDiff, one, Value.cells, Int.reduceLE, Int.reduceLT, Int.reduceToNat, add_mk, reduceCtorEq, tyF, n1, n2, n3, n4]
    refine ⟨fun h1 => ?_, fun h1 => ?_⟩
    · refine call_ok Try.call26 (law10_awake w1) ?_
      rintro _ w2 ⟨rfl, hm2⟩
      simp (config := {maxSteps := 1000000}) only [↓zvD, zvU, ↓up_apply, ↓hv_apply, ↓upO_some, ↓upO_none, ↓ev_tmp, ↓ev_const, ↓ev_func, ↓ev_global, init, Nat.reduceEqDiff, Nat.reduceAdd, Nat.reduceMul, Nat.reduceSub, ↓reduceIte, Int.reduceEq, Int.reduceNe, Nat.reduceLeDiff, one, Value.cells, Int.reduceLE, Int.reduceLT, Int.reduceToNat, add_mk, reduceCtorEq, tyF]
      exact hm1.trans hm2
    have e1 : IntKind.u8.wrap ((l.length : Int).fdiv (2 ^ min 8 IntKind.i64.bits)) = (l.length : Int) / 256 := by
      rw [show min 8 IntKind.i64.bits = 8 from rfl, Int.fdiv_eq_ediv_of_nonneg _ (by omega)]
      exact wu8 (by omega) (by omega)
    have e2 : IntKind.u8.wrap (l.length : Int) = (l.length : Int) % 256 := by simp [IntKind.wrap, IntKind.signed, IntKind.bits]
    rw [e1, e2]
    have e3 : (plain6 p l.length).map byteV = [.int .u8 111, .int .u8 1, .int .u8 2, .int .u8 3, .int .u8 ((l.length : Int) / 256), .int .u8 ((l.length : Int) % 256), .int .u8 p, .int .u8 9] := by
      simp only [plain6, List.map_cons, List.map_nil]
      rw [byteV_u8 (by omega) (by omega), byteV_u8 (by omega) (by omega), byteV_u8 hp.1 hp.2]
      rfl
    refine bslice (z := .int .u8 0) (cells := ((plain6 p l.length).map byteV).toArray) Try.underlying23 byteE (by omega) (by have := bcells_list (z := .int .u8 0) ((plain6 p l.length).map byteV) (by intro v hv; obtain ⟨b, _, rfl⟩ := List.mem_map.1 hv; rfl); rw [e3] at this ⊢; exact this) ?_
    have hm2 := more_alloc w1 (.cells ((plain6 p l.length).map byteV).toArray 5)
    have own2 := Own.made w1 5 1 ((plain6 p l.length).map byteV).toArray 8 (by simp [plain6]) (by simp [maxLen]) (B := w1.heap.size) (Nat.le_refl _)
    have s2 := size_alloc w1 (.cells ((plain6 p l.length).map byteV).toArray 5)
    generalize w1.alloc (.cells ((plain6 p l.length).map byteV).toArray 5) = w2 at hm2 own2 s2 ⊢
    have hm02 := hm1.trans hm2
    have hb2 := hb1.more hm2
    simp (config := {maxSteps := 1000000}) only [↓zvD, zvU, ↓up_apply, ↓hv_apply, ↓upO_some, ↓upO_none, ↓ev_tmp, ↓ev_const, ↓ev_func, ↓ev_global, init, Nat.reduceEqDiff, Nat.reduceAdd, Nat.reduceMul, Nat.reduceSub, ↓reduceIte, Int.reduceEq, Int.reduceNe, Nat.reduceLeDiff, one, Value.cells, Int.reduceLE, Int.reduceLT, Int.reduceToNat, add_mk, reduceCtorEq, tyF]
    refine app_own (m := 32) (news := whom.map byteV) Try.underlying23 byteE rfl (by omega) own2 (by have := hb2.cs; simpa using this) (by simpa using hw) (byteV_one _) (by simp only [maxLen]; omega) (by omega) (by omega) ?_
    intro A3 c3 w3 ho3 hg3 _
    have hm13 : More w1 w3 := grown_below own2 hm2 (by omega) hg3
    have s3 := hg3.size
    rw [List.toList_toArray, ← List.map_append] at ho3
    simp (config := {maxSteps := 1000000}) only [↓zvD, zvU, ↓up_apply, ↓hv_apply, ↓upO_some, ↓upO_none, ↓ev_tmp, ↓ev_const, ↓ev_func, ↓ev_global, init, Nat.reduceEqDiff, Nat.reduceAdd, Nat.reduceMul, Nat.reduceSub, ↓reduceIte, Int.reduceEq, Int.reduceNe, Nat.reduceLeDiff, one, Value.cells, Int.reduceLE, Int.reduceLT, Int.reduceToNat, add_mk, reduceCtorEq, tyF]
    refine app_own (m := l.length) (B := w1.heap.size) Try.underlying23 byteE rfl (by omega) ho3 (hA.more (hm1.trans hm13)) (by simp) (byteV_one _) (by simp only [maxLen]; omega) (by omega) (by omega) ?_
    intro A4 c4 w4 ho4 hg4 _
    have hm14 : More w1 w4 := grown_below ho3 hm13 (by omega) hg4
    have hm4 := hm1.trans hm14
    rw [← List.map_append] at ho4
    have hL : 8 + 32 + l.length = (plain6 p l.length ++ whom ++ l).length := by simp [plain6, hw]; omega
    rw [hL] at ho4 ⊢
    simp (config := {maxSteps := 1000000}) only [↓zvD, zvU, ↓up_apply, ↓hv_apply, ↓upO_some, ↓upO_none, ↓ev_tmp, ↓ev_const, ↓ev_func, ↓ev_global, init, Nat.reduceEqDiff, Nat.reduceAdd, Nat.reduceMul, Nat.reduceSub, ↓reduceIte, Int.reduceEq, Int.reduceNe, Nat.reduceLeDiff, one, Value.cells, Int.reduceLE, Int.reduceLT, Int.reduceToNat, add_mk, reduceCtorEq, tyF]
    refine call_ok Try.call27 (inet6_parse w4 A4 (plain6 p l.length ++ whom ++ l) c4 ho4.cs ho4.le (by omega)) ?_
    rintro _ w5 ⟨A5, c5, rfl, ho5, hm5⟩
    obtain ⟨g1, g2⟩ := plain6_parse p whom l hp hmo hw (by omega)
    rw [g2] at ho5
    rw [g1, g2]
    have hfit : (NetM.mk p (whom.take 16) (whom.drop 16) l true).Fit := ⟨hp.1, hp.2, by simp [hw], by simp [hw]⟩
    simp (config := {maxSteps := 1000000}) only [↓zvD, zvU, ↓up_apply, ↓hv_apply, ↓upO_some, ↓upO_none, ↓ev_tmp, ↓ev_const, ↓ev_func, ↓ev_global, init, Nat.reduceEqDiff, Nat.reduceAdd, Nat.reduceMul, Nat.reduceSub, ↓reduceIte, Int.reduceEq, Int.reduceNe, Nat.reduceLeDiff, one, Value.cells, Int.reduceLE, Int.reduceLT, Int.reduceToNat, add_mk, reduceCtorEq, tyF, zerNet]
    refine net_var hfit fun w6 hm6 hb6 hs6 => ?_
    have hm56 := hm5.trans hm6
    have hm06 := hm4.trans hm56
    have hb16 := (hb1.more hm14).more hm56
    have y1 := fun K => readstr_eq (P := Try.prog) (B := w6.heap.size) Try.underlying23 Try.underlying5 Try.underlying9 (ho5.more hm6).cs c5 (Nat.le_refl _) K
    have y2 := fun K => readstr_eq (P := Try.prog) (B := w6.heap.size) Try.underlying23 Try.underlying5 Try.underlying9 (hA.more hm06) c (Nat.le_refl _) K
    have hlt := hb6.lt
    have hlt1 := hb16.lt
    refine draw_calm mixed (by kernel_rfl) ?_
    have l16 : (whom.take 16).length = 16 := by simp [hw]
    have l16' : (whom.drop 16).length = 16 := by simp [hw]
    have rs := fun (a : Addr) (x : List UInt8) (hx : x.length = 16) (hB : Bs w6 (some a) x) (cc : Nat) (K : Value → Prop) => (by
      have := readstr_eq (P := Try.prog) (B := w6.heap.size) Try.underlying23 Try.underlying5 Try.underlying9 hB cc (Nat.le_refl _) K
      rw [hx] at this
      exact this : readP Try.prog w6.heap.size (convert 23 9 (.slice (some a) 16 cc)) w6 K = K (.string (bstr x)))
    have y3 := rs ⟨w5.heap.size, 1, none⟩ _ l16 (blk_bs hb6 (by rw [l16]; exact NetM.cSrc hfit _ _))
    have y4 := rs ⟨w5.heap.size, 17, none⟩ _ l16' (blk_bs hb6 (by rw [l16']; exact NetM.cDst hfit _ _))
    have y5 := rs ⟨w.heap.size, 0, none⟩ _ l16 (blk_bs hb16 (by simp [hw, List.map_take]))
    have y6 := rs ⟨w.heap.size, 16, none⟩ _ l16' (blk_bs hb16 (by rw [l16']; simp [List.map_drop]; exact List.take_of_length_le (by simp [hw])))
    have ha : adv (some ⟨w.heap.size, 0, none⟩) 32 16 1 = some ⟨w.heap.size, 16, none⟩ := by rw [adv_add _ _ 0 _ _ _ (by decide)]
    simp (config := {maxSteps := 1000000}) only [↓zvD, zvU, ↓zqD, ↓up_apply, ↓hv_apply, ↓upO_some, ↓upO_none, ↓ev_tmp, ↓ev_const, ↓ev_func, ↓ev_global, init, Nat.reduceEqDiff, Nat.reduceAdd, Nat.reduceMul, Nat.reduceSub, ↓reduceIte, Int.reduceEq, Int.reduceNe, Nat.reduceLeDiff, one, Value.cells, Int.reduceLE, Int.reduceLT, Int.reduceToNat, add_mk, reduceCtorEq, tyF, hb6.cell, NetM.c0, NetM.cBody hfit, NetM.cFirst hfit, hlt, ha, y1, y2, y3, y4, y5, y6, str_eq]
    intro w7 hm7
    exact hm06.trans hm7
end Go.Proofs.Ytejigcfdggkhgaa
