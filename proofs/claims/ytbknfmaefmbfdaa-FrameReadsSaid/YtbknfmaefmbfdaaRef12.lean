/-
  Layer 12: the reference's reading of a frame, FrameReads.
-/
import Derived.Test.YtbknfmaefmbfdaaLaw12
import Derived.Test.YtbknfmaefmbfdaaRef10
import Derived.Test.YtbknfmaefmbfdaaPortsR
namespace Go.Proofs.Ytbknfmaefmbfdaa
open Go Go.RowKit Go.Proofs.RV
set_option linter.unusedSimpArgs false
set_option linter.unusedVariables false
set_option maxRecDepth 10000
set_option maxHeartbeats 4000000

def Ref12R (l : List UInt8) (w : World) (v : Value) (w' : World) : Prop := v = .tuple #[.agg (frameM l).cells.toArray, .int .i64 (frameWhy l)] ∧ More w w'
theorem ref12_parse (w : World) (A : Option Addr) (l : List UInt8) (c : Nat) (hA : Bs w A l) (hc : l.length ≤ c) (hl : l.length ≤ 1000000) :
    Ret Try.prog 38 #[.slice A l.length c] w (Ref12R l w) := by
  refine ret_of Try.func38 rfl (by kernel_rfl) (Nat.le_of_ble_eq_true (by kernel_rfl)) ?_
  have bad : ∀ r, frameWhy l = r → r ≠ 0 → ∀ w', More w w' → Ref12R l w (.tuple #[.agg packZ.cells.toArray, .int .i64 r]) w' := by
    intro r hr hr0 w' hm
    have : frameM l = packZ := by unfold frameM; rw [if_neg (by rw [hr]; exact hr0)]
    unfold Ref12R
    rw [this, hr]
    exact ⟨rfl, hm⟩
  have hm1 := more_alloc w (.cells packZ.cells.toArray 76)
  have hb1 := Blk.new w 76 packZ.cells.toArray
  have s1 := size_alloc w (.cells packZ.cells.toArray 76)
  simp (config := {maxSteps := 1000000}) only [↓zvD, zvU, ↓up_apply, ↓hv_apply, ↓upO_some, ↓upO_none, ↓ev_tmp, ↓ev_const, ↓ev_func, ↓ev_global, init, Nat.reduceEqDiff, Nat.reduceAdd, Nat.reduceMul, Nat.reduceSub, ↓reduceIte, Int.reduceEq, Int.reduceNe, Nat.reduceLeDiff, one, Value.cells, Int.reduceLE, Int.reduceLT, Int.reduceToNat, add_mk, reduceCtorEq, tyF, zerPack]
  generalize w.alloc (.cells packZ.cells.toArray 76) = w1 at hm1 hb1 s1 ⊢
  have bn := pack_build0 w
  have sz := fun (w' : World) (hm : More w1 w') => st_same_eq (hb1.more hm) (n := 46) rfl (by simpa using PackM.one packZ)
  have rd := fun (w' : World) (hm : More w1 w') => (hb1.more hm).all_eq 46 rfl
  simp only [List.toList_toArray] at sz rd hb1
  have sz1 := sz w1 (More.refl w1)
  have rd1 := rd w1 (More.refl w1)
  refine ⟨fun h1 => ?_, fun h1 => ?_⟩
  · simp (config := {maxSteps := 1000000}) only [↓zvD, zvU, ↓up_apply, ↓hv_apply, ↓upO_some, ↓upO_none, ↓ev_tmp, ↓ev_const, ↓ev_func, ↓ev_global, init, Nat.reduceEqDiff, Nat.reduceAdd, Nat.reduceMul, Nat.reduceSub, ↓reduceIte, Int.reduceEq, Int.reduceNe, Nat.reduceLeDiff, one, Value.cells, Int.reduceLE, Int.reduceLT, Int.reduceToNat, add_mk, reduceCtorEq, tyF, bn, sz1, rd1]
    exact bad 7 (by unfold frameWhy; rw [if_pos (by omega)]) (by omega) _ hm1
  have w0 : ¬ 9216 < l.length := by omega
  refine call_ok Try.call65 (ref_ether w1 A l c (hA.more hm1) hl) ?_
  rintro _ w3 ⟨rfl, hm3⟩
  have hm2 := hm3
  have hat : (etherM l).2.2 = 0 → 0 ≤ (etherM l).2.1 ∧ (etherM l).2.1 ≤ l.length := ethGo_at 2 12 l
  have hw2 : (etherM l).2.2 ≠ 0 → frameWhy l = (etherM l).2.2 := fun h => by unfold frameWhy; rw [if_neg w0, if_pos h]
  have hw3 : (etherM l).2.2 = 0 → whyIp (etherM l).1 (ipOf l) ≠ 0 → frameWhy l = whyIp (etherM l).1 (ipOf l) := fun h h' => by unfold frameWhy; rw [if_neg w0, if_neg (by omega), if_pos h']
  have hw4 : (etherM l).2.2 = 0 → whyIp (etherM l).1 (ipOf l) = 0 → frameWhy l = (portsM (etherM l).1 (netOf l)).2.2 := fun h h' => by unfold frameWhy; rw [if_neg w0, if_neg (by omega), if_neg (by omega)]
  have hfl : flowOf l = ⟨(etherM l).1, (netOf l).proto, (netOf l).src, (netOf l).dst, (portsM (etherM l).1 (netOf l)).1, (portsM (etherM l).1 (netOf l)).2.1⟩ := rfl
  have hip : ipOf l = l.drop (etherM l).2.1.toNat := rfl
  have hno : netOf l = parseIp (etherM l).1 (ipOf l) := rfl
  generalize ipOf l = x at hw3 hw4 hip hno
  generalize netOf l = n at hw4 hfl hno
  generalize (etherM l).1 = v6 at *
  generalize (etherM l).2.1 = at_ at *
  generalize (etherM l).2.2 = r1 at *
  have sz3 := sz w3 hm3
  have rd3 := rd w3 hm3
  have hm13 := hm3
  simp (config := {maxSteps := 1000000}) only [↓zvD, zvU, ↓up_apply, ↓hv_apply, ↓upO_some, ↓upO_none, ↓ev_tmp, ↓ev_const, ↓ev_func, ↓ev_global, init, Nat.reduceEqDiff, Nat.reduceAdd, Nat.reduceMul, Nat.reduceSub, ↓reduceIte, Int.reduceEq, Int.reduceNe, Nat.reduceLeDiff, one, Value.cells, Int.reduceLE, Int.reduceLT, Int.reduceToNat, add_mk, reduceCtorEq, tyF, bn, sz3, rd3, zerNetR]
  refine ⟨fun h3 => ?_, fun h3 => bad r1 (hw2 h3) h3 _ (hm1.trans hm13)⟩
  obtain ⟨h4, h5⟩ := hat h3
  obtain ⟨k, rfl⟩ := Int.eq_ofNat_of_zero_le h4
  rw [Int.toNat_natCast] at hip
  have hkl : k ≤ l.length := by omega
  have hkc : k ≤ c := by omega
  have hnf : n.Fit := by rw [hno]; exact parseIp_fit v6 x
  have hnb : n.body.length ≤ x.length := by rw [hno]; exact parseIp_len v6 x
  have hma := more_alloc w3 (.cells netZ.toArray 121)
  have hba := Blk.new w3 121 netZ.toArray
  have sa := size_alloc w3 (.cells netZ.toArray 121)
  generalize w3.alloc (.cells netZ.toArray 121) = w5 at hma hba sa ⊢
  rw [List.toList_toArray] at hba
  have hA5 := ((hA.more hm1).more hm3).more hma
  have hx : Bs w5 (adv A c k 1) x := by rw [hip]; exact Cs.advB hA5 hc
  have hxl : x.length = l.length - k := by rw [hip, List.length_drop]
  have hr := portsM_rng v6 n
  have u1 : IntKind.u16.wrap (portsM v6 n).1 = (portsM v6 n).1 := wu16 hr.1 hr.2.1
  have u2 : IntKind.u16.wrap (portsM v6 n).2.1 = (portsM v6 n).2.1 := wu16 hr.2.2.1 hr.2.2.2
  cases v6 with
  | true =>
    have hno6 : parse6 x = n := by rw [hno]; rfl
    have hwh : whyIp true x = why6 x := rfl
    simp (config := {maxSteps := 1000000}) only [↓zvD, zvU, ↓up_apply, ↓hv_apply, ↓upO_some, ↓upO_none, ↓ev_tmp, ↓ev_const, ↓ev_func, ↓ev_global, init, Nat.reduceEqDiff, Nat.reduceAdd, Nat.reduceMul, Nat.reduceSub, ↓reduceIte, Int.reduceEq, Int.reduceNe, Nat.reduceLeDiff, one, Value.cells, Int.reduceLE, Int.reduceLT, Int.reduceToNat, add_mk, reduceCtorEq, tyF, hkc, hkl]
    refine ⟨h4, by omega, ?_⟩
    rw [Int.toNat_natCast, ← hxl]
    refine call_ok Try.call66 (ref6_parse w5 (adv A c k 1) x (c - k) hx (by omega) (by omega)) ?_
    rintro _ w6 ⟨A4, c4, rfl, ⟨ho6, hlt6⟩, hm6⟩
    rw [hno6] at ho6 ⊢
    rw [← hwh]
    have hb6 := hba.more hm6
    simp (config := {maxSteps := 1000000}) only [↓zvD, zvU, ↓up_apply, ↓hv_apply, ↓upO_some, ↓upO_none, ↓ev_tmp, ↓ev_const, ↓ev_func, ↓ev_global, init, Nat.reduceEqDiff, Nat.reduceAdd, Nat.reduceMul, Nat.reduceSub, ↓reduceIte, Int.reduceEq, Int.reduceNe, Nat.reduceLeDiff, one, Value.cells, Int.reduceLE, Int.reduceLT, Int.reduceToNat, add_mk, reduceCtorEq, tyF]
    refine st_all hb6 (by simpa using NetM.cells_len hnf A4 c4) rfl (by simpa using NetM.one n A4 c4) fun w7 k1 k2 => ?_
    rw [List.toList_toArray] at k2
    have hm37 : More w3 w7 := k1.below (hma.trans hm6) (Nat.le_refl _)
    have ho7 : Bs w7 A4 n.body := by
      rcases Nat.eq_zero_or_pos n.body.length with h0 | h0
      · rw [List.length_eq_zero_iff.1 h0]
        exact Cs.nil _ _
      · refine k1.cs ho6 fun z hz => ?_
        obtain ⟨a', e1, e2⟩ := hlt6 z hz
        obtain ⟨a'', rfl⟩ := hA.isAt (by omega)
        have e3 := adv_blk _ e1
        have := hA.blk_lt (by omega)
        have := hm1.size
        have := hm3.size
        omega
    have hm17 := hm13.trans hm37
    have sz7 := sz w7 hm17
    have rd7 := rd w7 hm17
    have rn7 := k2.all_eq 35 (NetM.cells_len hnf _ _)
    simp (config := {maxSteps := 1000000}) only [↓zvD, zvU, ↓up_apply, ↓hv_apply, ↓upO_some, ↓upO_none, ↓ev_tmp, ↓ev_const, ↓ev_func, ↓ev_global, init, Nat.reduceEqDiff, Nat.reduceAdd, Nat.reduceMul, Nat.reduceSub, ↓reduceIte, Int.reduceEq, Int.reduceNe, Nat.reduceLeDiff, one, Value.cells, Int.reduceLE, Int.reduceLT, Int.reduceToNat, add_mk, reduceCtorEq, tyF, bn, sz7, rd7, rn7]
    refine ⟨fun h6 => ?_, fun h6 => bad _ (hw3 h3 h6) h6 _ (hm1.trans hm17)⟩
    refine call_ok Try.call68 (ref_ports w7 _ n A4 c4 hnf ho7 (by omega)) ?_
    rintro _ w8 ⟨rfl, hm8⟩
    have hm18 := hm17.trans hm8
    have sz8 := sz w8 hm18
    have rd8 := rd w8 hm18
    have hb8 := k2.more hm8
    have hn8 := hb8.cell
    simp (config := {maxSteps := 1000000}) only [↓zvD, zvU, ↓up_apply, ↓hv_apply, ↓upO_some, ↓upO_none, ↓ev_tmp, ↓ev_const, ↓ev_func, ↓ev_global, init, Nat.reduceEqDiff, Nat.reduceAdd, Nat.reduceMul, Nat.reduceSub, ↓reduceIte, Int.reduceEq, Int.reduceNe, Nat.reduceLeDiff, one, Value.cells, Int.reduceLE, Int.reduceLT, Int.reduceToNat, add_mk, reduceCtorEq, tyF, bn, sz8, rd8, hn8, NetM.c0]
    refine ⟨fun h7 => ?_, fun h7 => bad _ (hw4 h3 h6) h7 _ (hm1.trans hm18)⟩
    have re1 := hb8.row_eq 1 16 (by rw [NetM.cells_len hnf]; omega)
    have re2 := hb8.row_eq 17 16 (by rw [NetM.cells_len hnf]; omega)
    simp only [NetM.cSrc hnf, NetM.cDst hnf] at re1 re2
    have fb := flow_build (flowOf_fit l) w
    rw [hfl] at fb
    have hff := flowOf_fit l
    simp (config := {maxSteps := 1000000}) only [↓zvD, zvU, ↓up_apply, ↓hv_apply, ↓upO_some, ↓upO_none, ↓ev_tmp, ↓ev_const, ↓ev_func, ↓ev_global, init, Nat.reduceEqDiff, Nat.reduceAdd, Nat.reduceMul, Nat.reduceSub, ↓reduceIte, Int.reduceEq, Int.reduceNe, Nat.reduceLeDiff, one, Value.cells, Int.reduceLE, Int.reduceLT, Int.reduceToNat, add_mk, reduceCtorEq, tyF, re1, re2, hn8, NetM.c0, u1, u2, fb, zerFlow]
    rw [← hfl]
    refine flow_var hff fun w9 hm9 hb9 hs9 => ?_
    have hm19 := hm18.trans hm9
    have r9 := hb9.all_eq 36 (FlowM.cells_len hff)
    have pb := pack_build (n := (l.length : Int)) hff (prefM_len hff) w
    refine draw_seen 5 [[], [], [1], [], [3], [0, 1, 2, 3, 4], [0, 1, 2, 3, 4, 5], [0, 1, 2, 3, 4, 5, 6]] (RV.look [(2, fun v _ => v = .agg (prefM (flowOf l)).cells.toArray)]) mixed (by kernel_rfl) (by kernel_rfl) (look_keeps _ (by
        intro z hz
        simp only [List.mem_cons, List.not_mem_nil, or_false] at hz
        subst hz
        rintro v a b hab rfl
        rfl)) ?_
    simp (config := {maxSteps := 1000000}) only [↓zvD, zvU, ↓zqD, ↓up_apply, ↓hv_apply, ↓upO_some, ↓upO_none, ↓ev_tmp, ↓ev_const, ↓ev_func, ↓ev_global, init, Nat.reduceEqDiff, Nat.reduceAdd, Nat.reduceMul, Nat.reduceSub, ↓reduceIte, Int.reduceEq, Int.reduceNe, Nat.reduceLeDiff, one, Value.cells, Int.reduceLE, Int.reduceLT, Int.reduceToNat, add_mk, reduceCtorEq, tyF, r9]
    refine ⟨fun w10 hm10 => call_ok Try.call42 (ref_prefix w10 _ hff) ?_, ?_⟩
    · rintro _ w11 ⟨rfl, hm11⟩
      simp (config := {maxSteps := 1000000}) only [↓zvD, zvU, ↓zqD, ↓up_apply, ↓hv_apply, ↓upO_some, ↓upO_none, ↓ev_tmp, ↓ev_const, ↓ev_func, ↓ev_global, init, Nat.reduceEqDiff, Nat.reduceAdd, Nat.reduceMul, Nat.reduceSub, ↓reduceIte, Int.reduceEq, Int.reduceNe, Nat.reduceLeDiff, one, Value.cells, Int.reduceLE, Int.reduceLT, Int.reduceToNat, add_mk, reduceCtorEq]
      exact hm11
    rintro _ ⟨w10, hm10, rfl⟩
    simp (config := {maxSteps := 1000000}) only [↓zvD, zvU, ↓zqD, ↓up_apply, ↓hv_apply, ↓upO_some, ↓upO_none, ↓ev_tmp, ↓ev_const, ↓ev_func, ↓ev_global, init, Nat.reduceEqDiff, Nat.reduceAdd, Nat.reduceMul, Nat.reduceSub, ↓reduceIte, Int.reduceEq, Int.reduceNe, Nat.reduceLeDiff, one, Value.cells, Int.reduceLE, Int.reduceLT, Int.reduceToNat, add_mk, reduceCtorEq, tyF, r9, pb]
    intro w11 hm11
    have hfull : frameM l = ⟨0, flowOf l, prefM (flowOf l), l.length⟩ := by unfold frameM; rw [if_pos (by rw [hw4 h3 h6]; exact h7)]
    rw [← hfull]
    have hmf : (frameM l).flow.Fit := by rw [hfull]; exact hff
    have hmp : (frameM l).pref.addr.length = 7 := by rw [hfull]; exact prefM_len hff
    refine st_all (hb1.more (hm19.trans hm11)) (by simpa using PackM.cells_len hmf hmp) rfl (by simpa using PackM.one (frameM l)) fun w12 k3 k4 => ?_
    have r12 := k4.all_eq 46 (by simpa using PackM.cells_len hmf hmp)
    simp (config := {maxSteps := 1000000}) only [↓zvD, zvU, ↓up_apply, ↓hv_apply, ↓upO_some, ↓upO_none, ↓ev_tmp, ↓ev_const, ↓ev_func, ↓ev_global, init, Nat.reduceEqDiff, Nat.reduceAdd, Nat.reduceMul, Nat.reduceSub, ↓reduceIte, Int.reduceEq, Int.reduceNe, Nat.reduceLeDiff, one, Value.cells, Int.reduceLE, Int.reduceLT, Int.reduceToNat, add_mk, reduceCtorEq, tyF, r12]
    unfold Ref12R
    rw [hw4 h3 h6, h7]
    exact ⟨by simp, k3.below (hm1.trans (hm19.trans hm11)) (Nat.le_refl _)⟩
  | false =>
    have hno4 : parse4 x = n := by rw [hno]; rfl
    have hwh : whyIp false x = why4 x := rfl
    simp (config := {maxSteps := 1000000}) only [↓zvD, zvU, ↓up_apply, ↓hv_apply, ↓upO_some, ↓upO_none, ↓ev_tmp, ↓ev_const, ↓ev_func, ↓ev_global, init, Nat.reduceEqDiff, Nat.reduceAdd, Nat.reduceMul, Nat.reduceSub, ↓reduceIte, Int.reduceEq, Int.reduceNe, Nat.reduceLeDiff, one, Value.cells, Int.reduceLE, Int.reduceLT, Int.reduceToNat, add_mk, reduceCtorEq, tyF, hkc, hkl]
    refine ⟨h4, by omega, ?_⟩
    rw [Int.toNat_natCast, ← hxl]
    refine call_ok Try.call67 (ref_parse w5 (adv A c k 1) x (c - k) hx (by omega) (by omega)) ?_
    rintro _ w6 ⟨A4, c4, rfl, ⟨ho6, hlt6⟩, hm6⟩
    rw [hno4] at ho6 ⊢
    rw [← hwh]
    have hb6 := hba.more hm6
    simp (config := {maxSteps := 1000000}) only [↓zvD, zvU, ↓up_apply, ↓hv_apply, ↓upO_some, ↓upO_none, ↓ev_tmp, ↓ev_const, ↓ev_func, ↓ev_global, init, Nat.reduceEqDiff, Nat.reduceAdd, Nat.reduceMul, Nat.reduceSub, ↓reduceIte, Int.reduceEq, Int.reduceNe, Nat.reduceLeDiff, one, Value.cells, Int.reduceLE, Int.reduceLT, Int.reduceToNat, add_mk, reduceCtorEq, tyF]
    refine st_all hb6 (by simpa using NetM.cells_len hnf A4 c4) rfl (by simpa using NetM.one n A4 c4) fun w7 k1 k2 => ?_
    rw [List.toList_toArray] at k2
    have hm37 : More w3 w7 := k1.below (hma.trans hm6) (Nat.le_refl _)
    have ho7 : Bs w7 A4 n.body := by
      rcases Nat.eq_zero_or_pos n.body.length with h0 | h0
      · rw [List.length_eq_zero_iff.1 h0]
        exact Cs.nil _ _
      · refine k1.cs ho6 fun z hz => ?_
        obtain ⟨a', e1, e2⟩ := hlt6 z hz
        obtain ⟨a'', rfl⟩ := hA.isAt (by omega)
        have e3 := adv_blk _ e1
        have := hA.blk_lt (by omega)
        have := hm1.size
        have := hm3.size
        omega
    have hm17 := hm13.trans hm37
    have sz7 := sz w7 hm17
    have rd7 := rd w7 hm17
    have rn7 := k2.all_eq 35 (NetM.cells_len hnf _ _)
    simp (config := {maxSteps := 1000000}) only [↓zvD, zvU, ↓up_apply, ↓hv_apply, ↓upO_some, ↓upO_none, ↓ev_tmp, ↓ev_const, ↓ev_func, ↓ev_global, init, Nat.reduceEqDiff, Nat.reduceAdd, Nat.reduceMul, Nat.reduceSub, ↓reduceIte, Int.reduceEq, Int.reduceNe, Nat.reduceLeDiff, one, Value.cells, Int.reduceLE, Int.reduceLT, Int.reduceToNat, add_mk, reduceCtorEq, tyF, bn, sz7, rd7, rn7]
    refine ⟨fun h6 => ?_, fun h6 => bad _ (hw3 h3 h6) h6 _ (hm1.trans hm17)⟩
    refine call_ok Try.call68 (ref_ports w7 _ n A4 c4 hnf ho7 (by omega)) ?_
    rintro _ w8 ⟨rfl, hm8⟩
    have hm18 := hm17.trans hm8
    have sz8 := sz w8 hm18
    have rd8 := rd w8 hm18
    have hb8 := k2.more hm8
    have hn8 := hb8.cell
    simp (config := {maxSteps := 1000000}) only [↓zvD, zvU, ↓up_apply, ↓hv_apply, ↓upO_some, ↓upO_none, ↓ev_tmp, ↓ev_const, ↓ev_func, ↓ev_global, init, Nat.reduceEqDiff, Nat.reduceAdd, Nat.reduceMul, Nat.reduceSub, ↓reduceIte, Int.reduceEq, Int.reduceNe, Nat.reduceLeDiff, one, Value.cells, Int.reduceLE, Int.reduceLT, Int.reduceToNat, add_mk, reduceCtorEq, tyF, bn, sz8, rd8, hn8, NetM.c0]
    refine ⟨fun h7 => ?_, fun h7 => bad _ (hw4 h3 h6) h7 _ (hm1.trans hm18)⟩
    have re1 := hb8.row_eq 1 16 (by rw [NetM.cells_len hnf]; omega)
    have re2 := hb8.row_eq 17 16 (by rw [NetM.cells_len hnf]; omega)
    simp only [NetM.cSrc hnf, NetM.cDst hnf] at re1 re2
    have fb := flow_build (flowOf_fit l) w
    rw [hfl] at fb
    have hff := flowOf_fit l
    simp (config := {maxSteps := 1000000}) only [↓zvD, zvU, ↓up_apply, ↓hv_apply, ↓upO_some, ↓upO_none, ↓ev_tmp, ↓ev_const, ↓ev_func, ↓ev_global, init, Nat.reduceEqDiff, Nat.reduceAdd, Nat.reduceMul, Nat.reduceSub, ↓reduceIte, Int.reduceEq, Int.reduceNe, Nat.reduceLeDiff, one, Value.cells, Int.reduceLE, Int.reduceLT, Int.reduceToNat, add_mk, reduceCtorEq, tyF, re1, re2, hn8, NetM.c0, u1, u2, fb, zerFlow]
    rw [← hfl]
    refine flow_var hff fun w9 hm9 hb9 hs9 => ?_
    have hm19 := hm18.trans hm9
    have r9 := hb9.all_eq 36 (FlowM.cells_len hff)
    have pb := pack_build (n := (l.length : Int)) hff (prefM_len hff) w
    refine draw_seen 5 [[], [], [1], [], [3], [0, 1, 2, 3, 4], [0, 1, 2, 3, 4, 5], [0, 1, 2, 3, 4, 5, 6]] (RV.look [(2, fun v _ => v = .agg (prefM (flowOf l)).cells.toArray)]) mixed (by kernel_rfl) (by kernel_rfl) (look_keeps _ (by
        intro z hz
        simp only [List.mem_cons, List.not_mem_nil, or_false] at hz
        subst hz
        rintro v a b hab rfl
        rfl)) ?_
    simp (config := {maxSteps := 1000000}) only [↓zvD, zvU, ↓zqD, ↓up_apply, ↓hv_apply, ↓upO_some, ↓upO_none, ↓ev_tmp, ↓ev_const, ↓ev_func, ↓ev_global, init, Nat.reduceEqDiff, Nat.reduceAdd, Nat.reduceMul, Nat.reduceSub, ↓reduceIte, Int.reduceEq, Int.reduceNe, Nat.reduceLeDiff, one, Value.cells, Int.reduceLE, Int.reduceLT, Int.reduceToNat, add_mk, reduceCtorEq, tyF, r9]
    refine ⟨fun w10 hm10 => call_ok Try.call42 (ref_prefix w10 _ hff) ?_, ?_⟩
    · rintro _ w11 ⟨rfl, hm11⟩
      simp (config := {maxSteps := 1000000}) only [↓zvD, zvU, ↓zqD, ↓up_apply, ↓hv_apply, ↓upO_some, ↓upO_none, ↓ev_tmp, ↓ev_const, ↓ev_func, ↓ev_global, init, Nat.reduceEqDiff, Nat.reduceAdd, Nat.reduceMul, Nat.reduceSub, ↓reduceIte, Int.reduceEq, Int.reduceNe, Nat.reduceLeDiff, one, Value.cells, Int.reduceLE, Int.reduceLT, Int.reduceToNat, add_mk, reduceCtorEq]
      exact hm11
    rintro _ ⟨w10, hm10, rfl⟩
    simp (config := {maxSteps := 1000000}) only [↓zvD, zvU, ↓zqD, ↓up_apply, ↓hv_apply, ↓upO_some, ↓upO_none, ↓ev_tmp, ↓ev_const, ↓ev_func, ↓ev_global, init, Nat.reduceEqDiff, Nat.reduceAdd, Nat.reduceMul, Nat.reduceSub, ↓reduceIte, Int.reduceEq, Int.reduceNe, Nat.reduceLeDiff, one, Value.cells, Int.reduceLE, Int.reduceLT, Int.reduceToNat, add_mk, reduceCtorEq, tyF, r9, pb]
    intro w11 hm11
    have hfull : frameM l = ⟨0, flowOf l, prefM (flowOf l), l.length⟩ := by unfold frameM; rw [if_pos (by rw [hw4 h3 h6]; exact h7)]
    rw [← hfull]
    have hmf : (frameM l).flow.Fit := by rw [hfull]; exact hff
    have hmp : (frameM l).pref.addr.length = 7 := by rw [hfull]; exact prefM_len hff
    refine st_all (hb1.more (hm19.trans hm11)) (by simpa using PackM.cells_len hmf hmp) rfl (by simpa using PackM.one (frameM l)) fun w12 k3 k4 => ?_
    have r12 := k4.all_eq 46 (by simpa using PackM.cells_len hmf hmp)
    simp (config := {maxSteps := 1000000}) only [↓zvD, zvU, ↓up_apply, ↓hv_apply, ↓upO_some, ↓upO_none, ↓ev_tmp, ↓ev_const, ↓ev_func, ↓ev_global, init, Nat.reduceEqDiff, Nat.reduceAdd, Nat.reduceMul, Nat.reduceSub, ↓reduceIte, Int.reduceEq, Int.reduceNe, Nat.reduceLeDiff, one, Value.cells, Int.reduceLE, Int.reduceLT, Int.reduceToNat, add_mk, reduceCtorEq, tyF, r12]
    unfold Ref12R
    rw [hw4 h3 h6, h7]
    exact ⟨by simp, k3.below (hm1.trans (hm19.trans hm11)) (Nat.le_refl _)⟩
theorem frM_fit (l : List UInt8) : (frameM l).flow.Fit := by
  unfold frameM
  split
  · exact flowOf_fit l
  · exact flowZ_fit
theorem frM_pref (l : List UInt8) : (frameM l).pref.addr.length = 7 := by
  unfold frameM
  split
  · exact prefM_len (flowOf_fit l)
  · rfl
theorem frame_reads (w : World) (A : Option Addr) (l : List UInt8) (c : Nat) (hA : Bs w A l) (hc : l.length ≤ c) :
    Ret Try.prog 11 #[.slice A l.length c] w fun v w' => v = .bool true ∧ More w w' := by
  refine ret_of Try.func11 rfl (by kernel_rfl) (Nat.le_of_ble_eq_true (by kernel_rfl)) ?_
  simp (config := {maxSteps := 1000000}) only [↓zvD, zvU, ↓up_apply, ↓hv_apply, ↓upO_some, ↓upO_none, ↓ev_tmp, ↓ev_const, ↓ev_func, ↓ev_global, init, Nat.reduceEqDiff, Nat.reduceAdd, Nat.reduceMul, Nat.reduceSub, ↓reduceIte, Int.reduceEq, Int.reduceNe, Nat.reduceLeDiff, one, Value.cells, Int.reduceLE, Int.reduceLT, Int.reduceToNat, add_mk, reduceCtorEq, tyF]
  refine call_ok Try.call36 (law12_awake w) ?_
  rintro _ w1 ⟨rfl, hm1⟩
  simp (config := {maxSteps := 1000000}) only [↓zvD, zvU, ↓up_apply, ↓hv_apply, ↓upO_some, ↓upO_none, ↓ev_tmp, ↓ev_const, ↓ev_func, ↓ev_global, init, Nat.reduceEqDiff, Nat.reduceAdd, Nat.reduceMul, Nat.reduceSub, ↓reduceIte, Int.reduceEq, Int.reduceNe, Nat.reduceLeDiff, one, Value.cells, Int.reduceLE, Int.reduceLT, Int.reduceToNat, add_mk, reduceCtorEq, tyF]
  refine ⟨fun h1 => ?_, fun h1 => ?_⟩
  · refine call_ok Try.call36 (law12_awake w1) ?_
    rintro _ w2 ⟨rfl, hm2⟩
    simp (config := {maxSteps := 1000000}) only [↓zvD, zvU, ↓up_apply, ↓hv_apply, ↓upO_some, ↓upO_none, ↓ev_tmp, ↓ev_const, ↓ev_func, ↓ev_global, init, Nat.reduceEqDiff, Nat.reduceAdd, Nat.reduceMul, Nat.reduceSub, ↓reduceIte, Int.reduceEq, Int.reduceNe, Nat.reduceLeDiff, one, Value.cells, Int.reduceLE, Int.reduceLT, Int.reduceToNat, add_mk, reduceCtorEq, tyF]
    exact hm1.trans hm2
  refine call_ok Try.call37 (frame_parse w1 A l c (hA.more hm1) hc (by omega)) ?_
  rintro _ w2 ⟨rfl, hm2⟩
  have hm12 := hm1.trans hm2
  have f1 := frM_fit l
  simp (config := {maxSteps := 1000000}) only [↓zvD, zvU, ↓up_apply, ↓hv_apply, ↓upO_some, ↓upO_none, ↓ev_tmp, ↓ev_const, ↓ev_func, ↓ev_global, init, Nat.reduceEqDiff, Nat.reduceAdd, Nat.reduceMul, Nat.reduceSub, ↓reduceIte, Int.reduceEq, Int.reduceNe, Nat.reduceLeDiff, one, Value.cells, Int.reduceLE, Int.reduceLT, Int.reduceToNat, add_mk, reduceCtorEq, tyF, zerPack]
  refine pack_var f1 (frM_pref l) fun w3 hm3 hb3 hs3 => ?_
  have hm13 := hm12.trans hm3
  refine call_ok Try.call38 (ref12_parse w3 A l c (hA.more hm13) hc (by omega)) ?_
  rintro _ w4 ⟨rfl, hm4⟩
  simp (config := {maxSteps := 1000000}) only [↓zvD, zvU, ↓up_apply, ↓hv_apply, ↓upO_some, ↓upO_none, ↓ev_tmp, ↓ev_const, ↓ev_func, ↓ev_global, init, Nat.reduceEqDiff, Nat.reduceAdd, Nat.reduceMul, Nat.reduceSub, ↓reduceIte, Int.reduceEq, Int.reduceNe, Nat.reduceLeDiff, one, Value.cells, Int.reduceLE, Int.reduceLT, Int.reduceToNat, add_mk, reduceCtorEq, tyF, zerPack]
  refine pack_var f1 (frM_pref l) fun w5 hm5 hb5 hs5 => ?_
  have hb35 := (hb3.more hm4).more hm5
  have ra := hb35.all_eq 46 (PackM.cells_len f1 (frM_pref l))
  have rb := hb5.all_eq 46 (PackM.cells_len f1 (frM_pref l))
  have pe := pack_eq f1 f1 (frM_pref l) (frM_pref l) w
  simp only [decide_true] at pe
  simp (config := {maxSteps := 1000000}) only [↓zvD, zvU, ↓up_apply, ↓hv_apply, ↓upO_some, ↓upO_none, ↓ev_tmp, ↓ev_const, ↓ev_func, ↓ev_global, init, Nat.reduceEqDiff, Nat.reduceAdd, Nat.reduceMul, Nat.reduceSub, ↓reduceIte, Int.reduceEq, Int.reduceNe, Nat.reduceLeDiff, one, Value.cells, Int.reduceLE, Int.reduceLT, Int.reduceToNat, add_mk, reduceCtorEq, tyF, ra, rb, pe]
  exact (hm13.trans hm4).trans hm5
end Go.Proofs.Ytbknfmaefmbfdaa
