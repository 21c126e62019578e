/-
  Layer 12: FrameApart and FramePads.
-/
import Derived.Test.YtbknfmaefmbfdaaLaw12K
namespace Go.Proofs.Ytbknfmaefmbfdaa
open Go Go.RowKit Go.Proofs.RV
set_option linter.unusedSimpArgs false
set_option linter.unusedVariables false
set_option maxRecDepth 10000
set_option maxHeartbeats 4000000

/-- a flow of IPv4 tells of four bytes of an address only -/
def Canon (f : FlowM) : Prop := f.v6 = false → f.src.drop 4 = noBytes 12 ∧ f.dst.drop 4 = noBytes 12
theorem frame_canon {l : List UInt8} (h : frameWhy l = 0) : Canon (flowOf l) := by
  intro hv
  have hv' : (etherM l).1 = false := hv
  have hw : whyIp (etherM l).1 (ipOf l) = 0 := by
    unfold frameWhy at h
    split at h
    · cases h
    split at h
    · rename_i h1
      exact absurd h h1
    split at h
    · rename_i h1
      exact absurd h h1
    · rename_i h1
      simpa using h1
  rw [hv'] at hw
  have hn : netOf l = net4 (ipOf l) := by
    show parseIp (etherM l).1 (ipOf l) = _
    rw [hv']
    have hw4 : why4 (ipOf l) = 0 := hw
    show parse4 (ipOf l) = _
    unfold parse4
    rw [if_pos hw4]
  have hlen : 20 ≤ (ipOf l).length := by
    have hw4 : why4 (ipOf l) = 0 := hw
    unfold why4 at hw4
    split at hw4
    · cases hw4
    · omega
  have hs : (flowOf l).src = (netOf l).src := rfl
  have hd : (flowOf l).dst = (netOf l).dst := rfl
  rw [hs, hd, hn]
  constructor
  · show (((ipOf l).drop 12).take 4 ++ noBytes 12).drop 4 = _
    exact List.drop_left' (by simp; omega)
  · show (((ipOf l).drop 16).take 4 ++ noBytes 12).drop 4 = _
    exact List.drop_left' (by simp; omega)
theorem u8_inj {x y : Int} (hx : 0 ≤ x) (hx1 : x < 256) (hy : 0 ≤ y) (hy1 : y < 256) (h : u8 x = u8 y) : x = y := by
  have := congrArg (fun z : UInt8 => (z.toNat : Int)) h
  simp only [u8_toNat hx hx1, u8_toNat hy hy1] at this
  exact this
theorem numB_inj {x y : Int} (hx : 0 ≤ x) (hx1 : x < 65536) (hy : 0 ≤ y) (hy1 : y < 65536) (h : numB x 2 = numB y 2) : x = y := by
  have := congrArg be h
  rw [be_numB hx, be_numB hy] at this
  omega
theorem keyM_inj {a b : FlowM} (fa : a.Fit) (fb : b.Fit) (ca : Canon a) (cb : Canon b) : keyM a = keyM b ↔ a = b := by
  refine ⟨fun h => ?_, fun h => by rw [h]⟩
  unfold keyM at h
  simp only [List.append_assoc, List.cons_append, List.nil_append, List.cons.injEq] at h
  obtain ⟨h1, h2, h3⟩ := h
  have hv : a.v6 = b.v6 := by
    have := u8_inj (by split <;> omega) (by split <;> omega) (by split <;> omega) (by split <;> omega) h1
    cases ha : a.v6 <;> cases hb : b.v6 <;> simp [ha, hb] at this ⊢
  have hp := u8_inj fa.p0 fa.p1 fb.p0 fb.p1 h2
  rw [hv] at h3
  have hn : adrN b.v6 ≤ 16 := by unfold adrN; split <;> omega
  obtain ⟨h4, h5⟩ := List.append_inj h3 (by simp [fa.src, fb.src])
  obtain ⟨h6, h7⟩ := List.append_inj h5 (by simp [fa.dst, fb.dst])
  obtain ⟨h8, h9⟩ := List.append_inj h7 (by rw [numB_len, numB_len])
  have hs : a.src = b.src := by
    rw [← List.take_append_drop (adrN b.v6) a.src, ← List.take_append_drop (adrN b.v6) b.src, h4]
    congr 1
    cases hb : b.v6 with
    | true =>
      show a.src.drop 16 = b.src.drop 16
      rw [List.drop_eq_nil_of_le (by rw [fa.src]; omega), List.drop_eq_nil_of_le (by rw [fb.src]; omega)]
    | false =>
      show a.src.drop 4 = b.src.drop 4
      rw [(ca (by rw [hv, hb])).1, (cb hb).1]
  have hd : a.dst = b.dst := by
    rw [← List.take_append_drop (adrN b.v6) a.dst, ← List.take_append_drop (adrN b.v6) b.dst, h6]
    congr 1
    cases hb : b.v6 with
    | true =>
      show a.dst.drop 16 = b.dst.drop 16
      rw [List.drop_eq_nil_of_le (by rw [fa.dst]; omega), List.drop_eq_nil_of_le (by rw [fb.dst]; omega)]
    | false =>
      show a.dst.drop 4 = b.dst.drop 4
      rw [(ca (by rw [hv, hb])).2, (cb hb).2]
  exact FlowM.ext' ⟨hv, hp, hs, hd, numB_inj fa.s0 fa.s1 fb.s0 fb.s1 h8, numB_inj fa.d0 fa.d1 fb.d0 fb.d1 h9⟩
open Classical in
theorem key_eq {x y : FlowM} (f1 : x.Fit) (f2 : y.Fit) (hinj : keyM x = keyM y ↔ x = y) (w : World) : ∃ t : Bool, (∀ (ox oy : Operand) (K : Value → Prop), pureP Try.prog (do eqGuard .eql 71 ox oy (.agg x.cells.toArray) (.agg y.cells.toArray); binOp .eql 71 (.agg x.cells.toArray) (.agg y.cells.toArray)) K = K (.bool t)) ∧ decide (keyM x = keyM y) = t := by
  refine ⟨_, flow_eq f1 f2 w, ?_⟩
  by_cases h : x = y
  · rw [decide_eq_true h, decide_eq_true (hinj.2 h)]
  · rw [decide_eq_false h, decide_eq_false fun hh => h (hinj.1 hh)]
theorem frameM_fit (l : List UInt8) : (frameM l).flow.Fit := by
  unfold frameM
  split
  · exact flowOf_fit l
  · exact flowZ_fit
theorem frameM_pref (l : List UInt8) : (frameM l).pref.addr.length = 7 := by
  unfold frameM
  split
  · exact prefM_len (flowOf_fit l)
  · rfl
theorem PackM.cFlow {p : PackM} (h : p.flow.Fit) : (p.cells.drop 1).take 36 = p.flow.cells := by
  simp [PackM.cells, List.take_append, FlowM.cells_len h]
theorem frame_apart (w : World) (A A' : Option Addr) (l l' : List UInt8) (c c' : Nat) (hA : Bs w A l) (hA' : Bs w A' l') (hc : l.length ≤ c) (hc' : l'.length ≤ c') :
    Ret Try.prog 13 #[.slice A l.length c, .slice A' l'.length c'] w fun v w' => v = .bool true ∧ More w w' := by
  refine ret_of Try.func13 rfl (by kernel_rfl) (Nat.le_of_ble_eq_true (by kernel_rfl)) ?_
  simp (config := {maxSteps := 1000000}) only [↓zvD, zvU, ↓up_apply, ↓hv_apply, ↓upO_some, ↓upO_none, ↓ev_tmp, ↓ev_const, ↓ev_func, ↓ev_global, init, Nat.reduceEqDiff, Nat.reduceAdd, Nat.reduceMul, Nat.reduceSub, ↓reduceIte, Int.reduceEq, Int.reduceNe, Nat.reduceLeDiff, one, Value.cells, Int.reduceLE, Int.reduceLT, Int.reduceToNat, add_mk, reduceCtorEq, tyF]
  refine call_ok Try.call36 (law12_awake w) ?_
  rintro _ w1 ⟨rfl, hm1⟩
  simp (config := {maxSteps := 1000000}) only [↓zvD, zvU, ↓up_apply, ↓hv_apply, ↓upO_some, ↓upO_none, ↓ev_tmp, ↓ev_const, ↓ev_func, ↓ev_global, init, Nat.reduceEqDiff, Nat.reduceAdd, Nat.reduceMul, Nat.reduceSub, ↓reduceIte, Int.reduceEq, Int.reduceNe, Nat.reduceLeDiff, one, Value.cells, Int.reduceLE, Int.reduceLT, Int.reduceToNat, add_mk, reduceCtorEq, tyF]
  refine ⟨fun h1 => ?_, fun h1 => ⟨fun h2 => ?_, fun h2 => ?_⟩⟩
  · refine call_ok Try.call36 (law12_awake w1) ?_
    rintro _ w2 ⟨rfl, hm2⟩
    simp (config := {maxSteps := 1000000}) only [↓zvD, zvU, ↓up_apply, ↓hv_apply, ↓upO_some, ↓upO_none, ↓ev_tmp, ↓ev_const, ↓ev_func, ↓ev_global, init, Nat.reduceEqDiff, Nat.reduceAdd, Nat.reduceMul, Nat.reduceSub, ↓reduceIte, Int.reduceEq, Int.reduceNe, Nat.reduceLeDiff, one, Value.cells, Int.reduceLE, Int.reduceLT, Int.reduceToNat, add_mk, reduceCtorEq, tyF]
    exact More.trans hm1 hm2
  · refine call_ok Try.call36 (law12_awake w1) ?_
    rintro _ w2 ⟨rfl, hm2⟩
    simp (config := {maxSteps := 1000000}) only [↓zvD, zvU, ↓up_apply, ↓hv_apply, ↓upO_some, ↓upO_none, ↓ev_tmp, ↓ev_const, ↓ev_func, ↓ev_global, init, Nat.reduceEqDiff, Nat.reduceAdd, Nat.reduceMul, Nat.reduceSub, ↓reduceIte, Int.reduceEq, Int.reduceNe, Nat.reduceLeDiff, one, Value.cells, Int.reduceLE, Int.reduceLT, Int.reduceToNat, add_mk, reduceCtorEq, tyF]
    exact More.trans hm1 hm2
  refine call_ok Try.call37 (frame_parse w1 A l c (hA.more hm1) hc (by omega)) ?_
  rintro _ w2 ⟨rfl, hm2⟩
  have hm12 := hm1.trans hm2
  have f1 := frameM_fit l
  have f2 := frameM_fit l'
  simp (config := {maxSteps := 1000000}) only [↓zvD, zvU, ↓up_apply, ↓hv_apply, ↓upO_some, ↓upO_none, ↓ev_tmp, ↓ev_const, ↓ev_func, ↓ev_global, init, Nat.reduceEqDiff, Nat.reduceAdd, Nat.reduceMul, Nat.reduceSub, ↓reduceIte, Int.reduceEq, Int.reduceNe, Nat.reduceLeDiff, one, Value.cells, Int.reduceLE, Int.reduceLT, Int.reduceToNat, add_mk, reduceCtorEq, tyF, zerPack]
  refine pack_var f1 (frameM_pref l) fun w3 hm3 hb3 hs3 => ?_
  have hm13 := hm12.trans hm3
  refine call_ok Try.call37 (frame_parse w3 A' l' c' (hA'.more hm13) hc' (by omega)) ?_
  rintro _ w4 ⟨rfl, hm4⟩
  simp (config := {maxSteps := 1000000}) only [↓zvD, zvU, ↓up_apply, ↓hv_apply, ↓upO_some, ↓upO_none, ↓ev_tmp, ↓ev_const, ↓ev_func, ↓ev_global, init, Nat.reduceEqDiff, Nat.reduceAdd, Nat.reduceMul, Nat.reduceSub, ↓reduceIte, Int.reduceEq, Int.reduceNe, Nat.reduceLeDiff, one, Value.cells, Int.reduceLE, Int.reduceLT, Int.reduceToNat, add_mk, reduceCtorEq, tyF, zerPack]
  refine pack_var f2 (frameM_pref l') fun w5 hm5 hb5 hs5 => ?_
  have hm15 := (hm13.trans hm4).trans hm5
  have hb35 := (hb3.more hm4).more hm5
  refine ⟨fun h3 => ⟨fun h4 => ?_, fun _ => hm15⟩, fun _ => hm15⟩
  have c1 : Canon (frameM l).flow := by unfold frameM; rw [if_pos h3]; exact frame_canon h3
  have c2 : Canon (frameM l').flow := by unfold frameM; rw [if_pos h4]; exact frame_canon h4
  have hinj := keyM_inj f1 f2 c1 c2
  have ra := hb35.row_eq 1 36 (by rw [PackM.cells_len f1 (frameM_pref l)]; omega)
  have rb := hb5.row_eq 1 36 (by rw [PackM.cells_len f2 (frameM_pref l')]; omega)
  rw [PackM.cFlow f1] at ra
  rw [PackM.cFlow f2] at rb
  have hpe := key_eq f1 f2 hinj w
  generalize (frameM l).flow = x at *
  generalize (frameM l').flow = y at *
  clear hinj
  obtain ⟨t, pe, ht⟩ := hpe
  refine draw_seen 14 [[], [0], [0, 1], [0, 1, 2], [], [4], [0, 1, 2, 4, 5], [0, 1, 2, 4, 5, 6], [0, 1, 2, 3, 4, 5, 6, 7], [], [9], [], [11], [9, 10, 11, 12], [0, 1, 2, 3, 4, 5, 6, 7, 8, 9, 10, 11, 12, 13], [0, 1, 2, 3, 4, 5, 6, 7, 8, 9, 10, 11, 12, 13, 14]] (RV.look [
    (2, BsF (keyM x)), (3, IsV (.string (bstr (keyM x)))), (6, BsF (keyM y)), (7, IsV (.string (bstr (keyM y))))]) mixed (by kernel_rfl) (by kernel_rfl) (look_keeps _ (by
    intro z hz
    simp only [List.mem_cons, List.not_mem_nil, or_false] at hz
    rcases hz with rfl | rfl | rfl | rfl
    · exact fun v a b hab => BsF.keeps hab
    · exact fun v a b hab => IsV.keeps hab
    · exact fun v a b hab => BsF.keeps hab
    · exact fun v a b hab => IsV.keeps hab)) ?_
  simp (config := {maxSteps := 1000000}) only [↓zvD, zvU, ↓zqD, ↓up_apply, ↓hv_apply, ↓upO_some, ↓upO_none, ↓ev_tmp, ↓ev_const, ↓ev_func, ↓ev_global, init, Nat.reduceEqDiff, Nat.reduceAdd, Nat.reduceMul, Nat.reduceSub, ↓reduceIte, Int.reduceEq, Int.reduceNe, Nat.reduceLeDiff, one, Value.cells, Int.reduceLE, Int.reduceLT, Int.reduceToNat, add_mk, reduceCtorEq, tyF, ra, rb]
  refine ⟨fun w6 hm6 => call_ok Try.call39 (frame_key w6 x f1) ?_, ?_⟩
  · rintro _ w7 ⟨A, c, rfl, ho, hm7⟩
    simp (config := {maxSteps := 1000000}) only [↓zvD, zvU, ↓zqD, ↓up_apply, ↓hv_apply, ↓upO_some, ↓upO_none, ↓ev_tmp, ↓ev_const, ↓ev_func, ↓ev_global, init, Nat.reduceEqDiff, Nat.reduceAdd, Nat.reduceMul, Nat.reduceSub, ↓reduceIte, Int.reduceEq, Int.reduceNe, Nat.reduceLeDiff, one, Value.cells, Int.reduceLE, Int.reduceLT, Int.reduceToNat, add_mk, reduceCtorEq]
    exact ⟨hm7, A, c, rfl, ho.cs⟩
  rintro _ ⟨w6, hm6, A1, d1, rfl, hA1⟩
  simp (config := {maxSteps := 1000000}) only [↓zvD, zvU, ↓zqD, ↓up_apply, ↓hv_apply, ↓upO_some, ↓upO_none, ↓ev_tmp, ↓ev_const, ↓ev_func, ↓ev_global, init, Nat.reduceEqDiff, Nat.reduceAdd, Nat.reduceMul, Nat.reduceSub, ↓reduceIte, Int.reduceEq, Int.reduceNe, Nat.reduceLeDiff, one, Value.cells, Int.reduceLE, Int.reduceLT, Int.reduceToNat, add_mk, reduceCtorEq, tyF, ra, rb]
  refine ⟨fun w7 hm7 hh => ?_, ?_⟩
  · obtain ⟨A, c, e, hB⟩ := hh
    cases e
    refine conv_str Try.underlying31 Try.underlying5 Try.underlying9 hB ?_
    simp (config := {maxSteps := 1000000}) only [↓zvD, zvU, ↓zqD, ↓up_apply, ↓hv_apply, ↓upO_some, ↓upO_none, ↓ev_tmp, ↓ev_const, ↓ev_func, ↓ev_global, init, Nat.reduceEqDiff, Nat.reduceAdd, Nat.reduceMul, Nat.reduceSub, ↓reduceIte, Int.reduceEq, Int.reduceNe, Nat.reduceLeDiff, one, Value.cells, Int.reduceLE, Int.reduceLT, Int.reduceToNat, add_mk, reduceCtorEq]
    exact ⟨More.refl _, rfl⟩
  rintro _ ⟨w7, hm7, _, rfl⟩
  simp (config := {maxSteps := 1000000}) only [↓zvD, zvU, ↓zqD, ↓up_apply, ↓hv_apply, ↓upO_some, ↓upO_none, ↓ev_tmp, ↓ev_const, ↓ev_func, ↓ev_global, init, Nat.reduceEqDiff, Nat.reduceAdd, Nat.reduceMul, Nat.reduceSub, ↓reduceIte, Int.reduceEq, Int.reduceNe, Nat.reduceLeDiff, one, Value.cells, Int.reduceLE, Int.reduceLT, Int.reduceToNat, add_mk, reduceCtorEq, tyF, ra, rb]
  refine ⟨fun w8 hm8 _ => call_ok Try.call39 (frame_key w8 y f2) ?_, ?_⟩
  · rintro _ w9 ⟨A, c, rfl, ho, hm9⟩
    simp (config := {maxSteps := 1000000}) only [↓zvD, zvU, ↓zqD, ↓up_apply, ↓hv_apply, ↓upO_some, ↓upO_none, ↓ev_tmp, ↓ev_const, ↓ev_func, ↓ev_global, init, Nat.reduceEqDiff, Nat.reduceAdd, Nat.reduceMul, Nat.reduceSub, ↓reduceIte, Int.reduceEq, Int.reduceNe, Nat.reduceLeDiff, one, Value.cells, Int.reduceLE, Int.reduceLT, Int.reduceToNat, add_mk, reduceCtorEq]
    exact ⟨hm9, A, c, rfl, ho.cs⟩
  rintro _ ⟨w8, hm8, _, A2, d2, rfl, hA2⟩
  simp (config := {maxSteps := 1000000}) only [↓zvD, zvU, ↓zqD, ↓up_apply, ↓hv_apply, ↓upO_some, ↓upO_none, ↓ev_tmp, ↓ev_const, ↓ev_func, ↓ev_global, init, Nat.reduceEqDiff, Nat.reduceAdd, Nat.reduceMul, Nat.reduceSub, ↓reduceIte, Int.reduceEq, Int.reduceNe, Nat.reduceLeDiff, one, Value.cells, Int.reduceLE, Int.reduceLT, Int.reduceToNat, add_mk, reduceCtorEq, tyF, ra, rb]
  refine ⟨fun w9 hm9 hh => ?_, ?_⟩
  · obtain ⟨_, A, c, e, hB⟩ := hh
    cases e
    refine conv_str Try.underlying31 Try.underlying5 Try.underlying9 hB ?_
    simp (config := {maxSteps := 1000000}) only [↓zvD, zvU, ↓zqD, ↓up_apply, ↓hv_apply, ↓upO_some, ↓upO_none, ↓ev_tmp, ↓ev_const, ↓ev_func, ↓ev_global, init, Nat.reduceEqDiff, Nat.reduceAdd, Nat.reduceMul, Nat.reduceSub, ↓reduceIte, Int.reduceEq, Int.reduceNe, Nat.reduceLeDiff, one, Value.cells, Int.reduceLE, Int.reduceLT, Int.reduceToNat, add_mk, reduceCtorEq]
    exact ⟨More.refl _, rfl⟩
  rintro _ ⟨w9, hm9, _, rfl⟩
  simp (config := {maxSteps := 1000000}) only [↓zvD, zvU, ↓zqD, ↓up_apply, ↓hv_apply, ↓upO_some, ↓upO_none, ↓ev_tmp, ↓ev_const, ↓ev_func, ↓ev_global, init, Nat.reduceEqDiff, Nat.reduceAdd, Nat.reduceMul, Nat.reduceSub, ↓reduceIte, Int.reduceEq, Int.reduceNe, Nat.reduceLeDiff, one, Value.cells, Int.reduceLE, Int.reduceLT, Int.reduceToNat, add_mk, reduceCtorEq, tyF, ra, rb, pe, str_eq, ht, beq_self_eq_true]
  exact fun w10 hm10 _ => hm15.trans hm10
end Go.Proofs.Ytbknfmaefmbfdaa
