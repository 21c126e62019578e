/-
  Layer 11: PortsMore.
-/
import Derived.Test.YtejigcfdggkhgaaPortsL
namespace Go.Proofs.Ytejigcfdggkhgaa
open Go Go.RowKit Go.Proofs.RV
set_option linter.unusedSimpArgs false
set_option linter.unusedVariables false
set_option maxRecDepth 10000
set_option maxHeartbeats 4000000

theorem take_snoc (l m : List UInt8) : ((l ++ m).map byteV).take l.length ++ m.map byteV = ((l ++ m).map byteV).take (l.length + m.length) := by
  have h : ((l ++ m).map byteV).take (l.length + m.length) = (l ++ m).map byteV := List.take_of_length_le (by simp)
  rw [h, List.map_append, List.take_left' (by simp)]
theorem bt_app {l m : List UInt8} {i : Nat} (h : i < l.length) : bt (l ++ m) i = bt l i := by
  simp [bt, List.getD_eq_getElem?_getD, List.getElem?_append_left h]
theorem two_app {l m : List UInt8} {i : Nat} (h : i + 1 < l.length) : two (l ++ m) i = two l i := by
  unfold two
  rw [bt_app (by omega), bt_app h]
/-- the reason is none or 'short' -/
theorem portsM_why (v6 : Bool) (n : NetM) : (portsM v6 n).2.2 = 0 ∨ portsM v6 n = (0, 0, 1) := by
  unfold portsM
  repeat (first | split | simp)
theorem portsM_more (v6 : Bool) (n : NetM) (m s d : List UInt8) (h : (portsM v6 n).2.2 = 0) : portsM v6 { n with body := n.body ++ m, src := s, dst := d } = portsM v6 n := by
  have eT : twoPorts { n with body := n.body ++ m, src := s, dst := d } = twoPorts n := rfl
  have eO : onePort v6 { n with body := n.body ++ m, src := s, dst := d } = onePort v6 n := rfl
  unfold portsM at h ⊢
  rw [eT, eO]
  simp only [List.length_append]
  cases hf : n.first
  · simp
  cases hT : twoPorts n
  · cases hO : onePort v6 n
    · simp
    · simp only [hf, hT, hO, Bool.true_eq_false, Bool.false_eq_true, if_true, if_false] at h ⊢
      split at h
      · cases h
      · rename_i h5
        rw [if_neg (by omega), if_neg h5, two_app (by omega)]
  · simp only [hf, hT, Bool.true_eq_false, if_true, if_false] at h ⊢
    split at h
    · cases h
    · rename_i h5
      rw [if_neg (by omega), if_neg h5, two_app (by omega), two_app (by omega)]
theorem ports_more (w : World) (v6 : Bool) (n : NetM) (A : Option Addr) (c : Nat) (A' : Option Addr) (m : List UInt8) (c' : Nat) (hn : n.Fit) (hA : Bs w A n.body) (hA' : Bs w A' m) :
    Ret Try.prog 5 #[.bool v6, .agg (n.cells A c).toArray, .slice A' m.length c'] w fun v w' => v = .bool true ∧ More w w' := by
  refine ret_of Try.func5 rfl (by kernel_rfl) (Nat.le_of_ble_eq_true (by kernel_rfl)) ?_
  have hm1 := more_alloc w (.cells (n.cells A c).toArray 25)
  have hb1 := Blk.new w 25 (n.cells A c).toArray
  simp (config := {maxSteps := 1000000}) only [↓zvD, zvU, ↓up_apply, ↓hv_apply, ↓upO_some, ↓upO_none, ↓ev_tmp, ↓ev_const, ↓ev_func, ↓ev_global, init, Nat.reduceEqDiff, Nat.reduceAdd, Nat.reduceMul, Nat.reduceSub, ↓reduceIte, Int.reduceEq, Int.reduceNe, Nat.reduceLeDiff, one, Value.cells, Int.reduceLE, Int.reduceLT, Int.reduceToNat, add_mk, reduceCtorEq, tyF]
  generalize w.alloc (.cells (n.cells A c).toArray 25) = w1 at hm1 hb1 ⊢
  refine call_ok Try.call18 (law11_awake w1) ?_
  rintro _ w2 ⟨rfl, hm2⟩
  have hm12 : More w w2 := hm1.trans hm2
  have hb2 := hb1.more hm2
  have skip : callP Try.prog (.func (.func 18) #[] #[]) #[] w2 (fun v w' => v = .bool true ∧ More w w') :=
    call_ok Try.call18 (law11_awake w2) fun v w2 ⟨hv, hm2⟩ => ⟨hv, hm12.trans hm2⟩
  have r2 := hb2.all_eq 35 (NetM.cells_len hn _ _)
  simp (config := {maxSteps := 1000000}) only [↓zvD, zvU, ↓up_apply, ↓hv_apply, ↓upO_some, ↓upO_none, ↓ev_tmp, ↓ev_const, ↓ev_func, ↓ev_global, init, Nat.reduceEqDiff, Nat.reduceAdd, Nat.reduceMul, Nat.reduceSub, ↓reduceIte, Int.reduceEq, Int.reduceNe, Nat.reduceLeDiff, one, Value.cells, Int.reduceLE, Int.reduceLT, Int.reduceToNat, add_mk, reduceCtorEq, tyF, hb2.cell, NetM.cBody hn, r2]
  refine ⟨fun h => ?_, fun h => ⟨fun h' => ?_, fun h' => ?_⟩⟩
  · refine call_ok Try.call18 (law11_awake w2) ?_
    rintro _ w3 ⟨rfl, hm3⟩
    simp (config := {maxSteps := 1000000}) only [↓zvD, zvU, ↓up_apply, ↓hv_apply, ↓upO_some, ↓upO_none, ↓ev_tmp, ↓ev_const, ↓ev_func, ↓ev_global, init, Nat.reduceEqDiff, Nat.reduceAdd, Nat.reduceMul, Nat.reduceSub, ↓reduceIte, Int.reduceEq, Int.reduceNe, Nat.reduceLeDiff, one, Value.cells, Int.reduceLE, Int.reduceLT, Int.reduceToNat, add_mk, reduceCtorEq, tyF]
    exact hm12.trans hm3
  · refine call_ok Try.call18 (law11_awake w2) ?_
    rintro _ w3 ⟨rfl, hm3⟩
    simp (config := {maxSteps := 1000000}) only [↓zvD, zvU, ↓up_apply, ↓hv_apply, ↓upO_some, ↓upO_none, ↓ev_tmp, ↓ev_const, ↓ev_func, ↓ev_global, init, Nat.reduceEqDiff, Nat.reduceAdd, Nat.reduceMul, Nat.reduceSub, ↓reduceIte, Int.reduceEq, Int.reduceNe, Nat.reduceLeDiff, one, Value.cells, Int.reduceLE, Int.reduceLT, Int.reduceToNat, add_mk, reduceCtorEq, tyF]
    exact hm12.trans hm3
  refine call_ok Try.call19 (ports_parse w2 v6 n A c hn (hA.more hm12) (by omega)) ?_
  rintro _ w3 ⟨rfl, hm3⟩
  have hm13 := hm12.trans hm3
  have hb3 := hb2.more hm3
  rcases portsM_why v6 n with hw | hw
  rotate_left
  · rw [hw]
    simp (config := {maxSteps := 1000000}) only [↓zvD, zvU, ↓up_apply, ↓hv_apply, ↓upO_some, ↓upO_none, ↓ev_tmp, ↓ev_const, ↓ev_func, ↓ev_global, init, Nat.reduceEqDiff, Nat.reduceAdd, Nat.reduceMul, Nat.reduceSub, ↓reduceIte, Int.reduceEq, Int.reduceNe, Nat.reduceLeDiff, one, Value.cells, Int.reduceLE, Int.reduceLT, Int.reduceToNat, add_mk, reduceCtorEq, tyF]
    exact hm13
  simp (config := {maxSteps := 1000000}) only [↓zvD, zvU, ↓up_apply, ↓hv_apply, ↓upO_some, ↓upO_none, ↓ev_tmp, ↓ev_const, ↓ev_func, ↓ev_global, init, Nat.reduceEqDiff, Nat.reduceAdd, Nat.reduceMul, Nat.reduceSub, ↓reduceIte, Int.reduceEq, Int.reduceNe, Nat.reduceLeDiff, one, Value.cells, Int.reduceLE, Int.reduceLT, Int.reduceToNat, add_mk, reduceCtorEq, tyF, hw]
  refine draw_pre 5 ((n.body ++ m).map byteV) 10 [[], [], [1], [0, 1, 2], [], [0, 1, 2, 3, 4], [], [6], [], [8], [0, 1, 2, 3, 4, 5, 6, 7, 8, 9], [0, 1, 2, 3, 4, 5, 6, 7, 8, 9, 10], [0, 1, 2, 3, 4, 5, 6, 7, 8, 9, 10, 11], [0, 1, 2, 3, 4, 5, 6, 7, 8, 9, 10, 11, 12], [0, 1, 2, 3, 4, 5, 6, 7, 8, 9, 10, 11, 12, 13], [0, 1, 2, 3, 4, 5, 6, 7, 8, 9, 10, 11, 12, 13, 14]] (RV.look [(0, Holds w3.heap.size 5 ((n.body ++ m).map byteV) 0), (3, Holds w3.heap.size 5 ((n.body ++ m).map byteV) n.body.length), (5, Holds w3.heap.size 5 ((n.body ++ m).map byteV) (n.body.length + m.length))]) mixed (by kernel_rfl) (by kernel_rfl) (look_pre _ ?_) ?_
  · intro x hx
    simp only [List.mem_cons, List.not_mem_nil, or_false] at hx
    rcases hx with rfl | rfl | rfl <;> exact fun v a b hp h => h.pre hp
  have q1 := fun K => hb3.row_eq 1 16 (by simp [NetM.cells_len hn]) K
  have q2 := fun K => hb3.row_eq 17 16 (by simp [NetM.cells_len hn]) K
  simp (config := {maxSteps := 1000000}) only [↓zvD, zvU, ↓zqD, ↓up_apply, ↓hv_apply, ↓upO_some, ↓upO_none, ↓ev_tmp, ↓ev_const, ↓ev_func, ↓ev_global, init, Nat.reduceEqDiff, Nat.reduceAdd, Nat.reduceMul, Nat.reduceSub, ↓reduceIte, Int.reduceEq, Int.reduceNe, Nat.reduceLeDiff, one, Value.cells, Int.reduceLE, Int.reduceLT, Int.reduceToNat, add_mk, reduceCtorEq, tyF, hb3.cell, NetM.cBody hn, NetM.cSrc hn, NetM.cDst hn, q1, q2]
  refine ⟨fun w4 hp4 => ?_, ?_⟩
  · refine bslice (z := .int .u8 0) (cells := #[]) Try.underlying23 byteE (by omega) (bcells_list [] (by simp)) ?_
    simp (config := {maxSteps := 1000000}) only [↓zvD, zvU, ↓zqD, ↓up_apply, ↓hv_apply, ↓upO_some, ↓upO_none, ↓ev_tmp, ↓ev_const, ↓ev_func, ↓ev_global, init, Nat.reduceEqDiff, Nat.reduceAdd, Nat.reduceMul, Nat.reduceSub, ↓reduceIte, Int.reduceEq, Int.reduceNe, Nat.reduceLeDiff, one, Value.cells, Int.reduceLE, Int.reduceLT, Int.reduceToNat, add_mk, reduceCtorEq, tyF]
    exact ⟨Pre.of_more (more_alloc ..) hp4.below.size, Holds.made _ _ _ _ rfl rfl (by simp [maxLen]) hp4.below.size⟩
  rintro _ ⟨w4, hp4, A4, c4, rfl, ho4⟩
  simp (config := {maxSteps := 1000000}) only [↓zvD, zvU, ↓zqD, ↓up_apply, ↓hv_apply, ↓upO_some, ↓upO_none, ↓ev_tmp, ↓ev_const, ↓ev_func, ↓ev_global, init, Nat.reduceEqDiff, Nat.reduceAdd, Nat.reduceMul, Nat.reduceSub, ↓reduceIte, Int.reduceEq, Int.reduceNe, Nat.reduceLeDiff, one, Value.cells, Int.reduceLE, Int.reduceLT, Int.reduceToNat, add_mk, reduceCtorEq, tyF, hb3.cell, NetM.cBody hn]
  refine ⟨fun w5 hp5 hh5 => ?_, ?_⟩
  · refine app_holds (k' := n.body.length) (news := n.body.map byteV) Try.underlying23 byteE rfl hh5 ((hA.more hm13).more (hp5.more rfl)) (by simp) (byteV_one _) (by simp only [maxLen]; omega) (by omega) hp5.below.size (by simp) (by omega) fun A6 c6 w6 g1 g2 => ?_
    simp (config := {maxSteps := 1000000}) only [↓zvD, zvU, ↓zqD, ↓up_apply, ↓hv_apply, ↓upO_some, ↓upO_none, ↓ev_tmp, ↓ev_const, ↓ev_func, ↓ev_global, init, Nat.reduceEqDiff, Nat.reduceAdd, Nat.reduceMul, Nat.reduceSub, ↓reduceIte, Int.reduceEq, Int.reduceNe, Nat.reduceLeDiff, one, Value.cells, Int.reduceLE, Int.reduceLT, Int.reduceToNat, add_mk, reduceCtorEq, tyF]
    exact ⟨g2, g1⟩
  rintro _ ⟨w5, hp5, _, A5, c5, rfl, ho5⟩
  simp (config := {maxSteps := 1000000}) only [↓zvD, zvU, ↓zqD, ↓up_apply, ↓hv_apply, ↓upO_some, ↓upO_none, ↓ev_tmp, ↓ev_const, ↓ev_func, ↓ev_global, init, Nat.reduceEqDiff, Nat.reduceAdd, Nat.reduceMul, Nat.reduceSub, ↓reduceIte, Int.reduceEq, Int.reduceNe, Nat.reduceLeDiff, one, Value.cells, Int.reduceLE, Int.reduceLT, Int.reduceToNat, add_mk, reduceCtorEq, tyF, hb3.cell, NetM.cBody hn]
  refine ⟨fun w6 hp6 hh6 => ?_, ?_⟩
  · refine app_holds (k' := n.body.length + m.length) (news := m.map byteV) Try.underlying23 byteE rfl hh6.2 ((hA'.more hm13).more (hp6.more rfl)) (by simp) (byteV_one _) (by simp only [maxLen]; omega) (by omega) hp6.below.size (take_snoc n.body m) (by omega) fun A7 c7 w7 g1 g2 => ?_
    simp (config := {maxSteps := 1000000}) only [↓zvD, zvU, ↓zqD, ↓up_apply, ↓hv_apply, ↓upO_some, ↓upO_none, ↓ev_tmp, ↓ev_const, ↓ev_func, ↓ev_global, init, Nat.reduceEqDiff, Nat.reduceAdd, Nat.reduceMul, Nat.reduceSub, ↓reduceIte, Int.reduceEq, Int.reduceNe, Nat.reduceLeDiff, one, Value.cells, Int.reduceLE, Int.reduceLT, Int.reduceToNat, add_mk, reduceCtorEq, tyF]
    exact ⟨g2, g1⟩
  rintro _ ⟨w6, hp6, _, A6, c6, rfl, ho6⟩
  simp (config := {maxSteps := 1000000}) only [↓zvD, zvU, ↓zqD, ↓up_apply, ↓hv_apply, ↓upO_some, ↓upO_none, ↓ev_tmp, ↓ev_const, ↓ev_func, ↓ev_global, init, Nat.reduceEqDiff, Nat.reduceAdd, Nat.reduceMul, Nat.reduceSub, ↓reduceIte, Int.reduceEq, Int.reduceNe, Nat.reduceLeDiff, one, Value.cells, Int.reduceLE, Int.reduceLT, Int.reduceToNat, add_mk, reduceCtorEq, tyF, hb3.cell, NetM.cBody hn, NetM.cSrc hn, NetM.cDst hn, q1, q2]
  intro w7 hp7 hh7
  have hm17 := hm13.trans (hp7.more rfl)
  have ho7 := hh7.2.2.own.2
  have hb7 := hb3.more (hp7.more rfl)
  have hA7 := ho7.cs
  have hL : n.body.length + m.length = (n.body ++ m).length := by simp
  rw [hL, List.take_of_length_le (by simp)] at hA7
  rw [hL]
  refine st_cell hb7 (by simp [NetM.cells_len hn]) rfl fun w8 k1 k2 => ?_
  have k2 := k2
  simp only [List.toList_toArray] at k2
  rw [NetM.setBody hn] at k2
  have f8 : ({ n with body := n.body ++ m } : NetM).Fit := ⟨hn.p0, hn.p1, hn.src, hn.dst⟩
  try simp (config := {maxSteps := 1000000}) only [↓zvD, zvU, ↓up_apply, ↓hv_apply, ↓upO_some, ↓upO_none, ↓ev_tmp, ↓ev_const, ↓ev_func, ↓ev_global, init, Nat.reduceEqDiff, Nat.reduceAdd, Nat.reduceMul, Nat.reduceSub, ↓reduceIte, Int.reduceEq, Int.reduceNe, Nat.reduceLeDiff, one, Value.cells, Int.reduceLE, Int.reduceLT, Int.reduceToNat, add_mk, reduceCtorEq, tyF]
  refine st_row k2 (by simp [hn.dst]) (by simp [NetM.cells_len f8]) (by simpa using byteV_one n.dst) fun w9 k3 k4 => ?_
  simp only [List.toList_toArray] at k4
  rw [NetM.setSrc f8 _ _ _ hn.dst] at k4
  have f9 : ({ n with body := n.body ++ m, src := n.dst } : NetM).Fit := ⟨hn.p0, hn.p1, hn.dst, hn.dst⟩
  try simp (config := {maxSteps := 1000000}) only [↓zvD, zvU, ↓up_apply, ↓hv_apply, ↓upO_some, ↓upO_none, ↓ev_tmp, ↓ev_const, ↓ev_func, ↓ev_global, init, Nat.reduceEqDiff, Nat.reduceAdd, Nat.reduceMul, Nat.reduceSub, ↓reduceIte, Int.reduceEq, Int.reduceNe, Nat.reduceLeDiff, one, Value.cells, Int.reduceLE, Int.reduceLT, Int.reduceToNat, add_mk, reduceCtorEq, tyF]
  refine st_row k4 (by simp [hn.src]) (by simp [NetM.cells_len f9]) (by simpa using byteV_one n.src) fun w10 k5 k6 => ?_
  simp only [List.toList_toArray] at k6
  rw [NetM.setDst f9 _ _ _ hn.src] at k6
  have f10 : ({ n with body := n.body ++ m, src := n.dst, dst := n.src } : NetM).Fit := ⟨hn.p0, hn.p1, hn.dst, hn.src⟩
  have hs7 := (hp7.more rfl).size
  have hs3 := hb3.lt
  have hne : ∀ a, A6 = some a → a.block ≠ w.heap.size := by
    intro a ha hh
    have := (ho7.atB_ge ⟨a, ha, rfl⟩).1
    omega
  have hm110 : More w w10 := k5.below (k3.below (k1.below hm17 (Nat.le_refl _)) (Nat.le_refl _)) (Nat.le_refl _)
  have hA10 := k5.cs (k3.cs (k1.cs hA7 hne) hne) hne
  have r10 := k6.all_eq 35 (NetM.cells_len f10 _ _)
  simp (config := {maxSteps := 1000000}) only [↓zvD, zvU, ↓up_apply, ↓hv_apply, ↓upO_some, ↓upO_none, ↓ev_tmp, ↓ev_const, ↓ev_func, ↓ev_global, init, Nat.reduceEqDiff, Nat.reduceAdd, Nat.reduceMul, Nat.reduceSub, ↓reduceIte, Int.reduceEq, Int.reduceNe, Nat.reduceLeDiff, one, Value.cells, Int.reduceLE, Int.reduceLT, Int.reduceToNat, add_mk, reduceCtorEq, tyF, r10]
  refine call_ok Try.call19 (ports_parse w10 v6 _ A6 c6 f10 hA10 (by show (n.body ++ m).length ≤ _; omega)) ?_
  rintro _ w11 ⟨rfl, hm11⟩
  have e := portsM_more v6 n m n.dst n.src hw
  rw [e, hw]
  simp (config := {maxSteps := 1000000}) only [↓zvD, zvU, ↓up_apply, ↓hv_apply, ↓upO_some, ↓upO_none, ↓ev_tmp, ↓ev_const, ↓ev_func, ↓ev_global, init, Nat.reduceEqDiff, Nat.reduceAdd, Nat.reduceMul, Nat.reduceSub, ↓reduceIte, Int.reduceEq, Int.reduceNe, Nat.reduceLeDiff, one, Value.cells, Int.reduceLE, Int.reduceLT, Int.reduceToNat, add_mk, reduceCtorEq, tyF]
  exact hm110.trans hm11
end Go.Proofs.Ytejigcfdggkhgaa
