/-
  Layer 12: what an idle program answers wrongly; a flow that came in; FrameKeys.
-/
import Derived.Test.YtbknfmaefmbfdaaFrameP
import Derived.Test.YtbknfmaefmbfdaaKey
import Derived.Test.YtbknfmaefmbfdaaLa
namespace Go.Proofs.Ytbknfmaefmbfdaa
open Go Go.RowKit Go.Proofs.RV
set_option linter.unusedSimpArgs false
set_option linter.unusedVariables false
set_option maxRecDepth 10000
set_option maxHeartbeats 4000000

/-- an array put together -/
theorem build_arr {P : Program} {T e n : Nat} {z : Value} {parts : Array (Nat × Value)} {out : List Value} {K : Value → Prop} (hT : P.underlying T = some (.array n e)) (hz : zer P T = some z) (hs : P.cellsOf e = 1)
    (hf : laid (fun i => some (i * 1, 1)) z.cells.toList parts.toList = some out) (hK : K (.agg out.toArray)) : pureP P (Instr.build T parts) K := by
  refine ⟨_, fun w => ?_, hK⟩
  unfold Instr.build
  rw [Sem.run_bind, zero_run hz]
  simp only [Result.andThen_ok]
  rw [Sem.run_bind, run_un hT]
  simp only [Result.andThen_ok]
  have hsz : (Go.sizeOf e).run P w = .ok 1 w := by rw [← hs]; exact size_run' (by omega) w
  rw [Sem.run_bind, hsz]
  simp only [Result.andThen_ok]
  have h2 := fill_laid (fun i => some (i * 1, 1)) parts.toList z.cells out (by simpa using hf)
  rw [h2]
  rfl
def src9 : List UInt8 := 9 :: noBytes 15
theorem arr9 {K : Value → Prop} (hK : K (.agg (src9.map byteV).toArray)) : pureP Try.prog (Instr.build 68 #[(0, .int .u8 9)]) K :=
  build_arr Try.underlying68 zer68 cells5 (by rfl) hK
theorem flow9 {K : Value → Prop} (hK : K (.agg ({ flowZ with src := src9 } : FlowM).cells.toArray)) : pureP Try.prog (Instr.build 71 #[(2, .agg (src9.map byteV).toArray)]) K := by
  refine build_struct (out := ({ flowZ with src := src9 } : FlowM).cells) Try.underlying71 zerFlow flowFields ?_ hK
  simp only [List.getElem?_toArray]
  refine laid_step (a := [.bool false, .int .u8 0]) (b := (noBytes 16).map byteV) (c := (noBytes 16).map byteV ++ [.int .u16 0, .int .u16 0]) (vs := src9.map byteV) rfl rfl (by simp [cells68, noBytes]) rfl ?_
  rfl
theorem flow_build0 (w0 : World) (K : Value → Prop) : pureP Try.prog (Instr.build 71 #[]) K = K (.agg flowZ.cells.toArray) :=
  build0_eq Try.underlying71 zerFlow flowFields w0 K
theorem pref_addr {p : PrefM} (hp : p.addr.length = 7) (w0 : World) (K : Value → Prop) : pureP Try.prog (Instr.field 74 (.agg p.cells.toArray) 1) K = K (.agg (p.addr.map byteV).toArray) := by
  refine pure_eq (fun w => ?_) w0 K
  unfold Instr.field
  rw [Sem.run_bind, run_un Try.underlying74]
  simp only [Result.andThen_ok, List.getElem?_toArray, List.getElem?_cons_succ, List.getElem?_cons_zero]
  have h := part_run (P := Try.prog) (n := 4) (T := 72) (pre := [.bool p.v6]) (a := p.addr.map byteV) (b := []) (flat_bytes Try.underlying72 Try.underlying5 cells5 hp) (by rw [List.length_map, hp, cells72]) w
  have htv : tv Try.prog 72 (p.addr.map byteV) = .agg (p.addr.map byteV).toArray := by unfold tv; rw [Try.underlying72]
  rw [htv, List.append_nil] at h
  rw [Sem.run_bind]
  simp only [asAgg, Sem.run_pure, Result.andThen_ok]
  exact h
theorem addr_at {x : List UInt8} (hp : x.length = 7) (w0 : World) (K : Value → Prop) : pureP Try.prog (Instr.index 72 (.agg (x.map byteV).toArray) (.int .i64 0)) K = K (.int .u8 (bt x 0)) := by
  refine pure_eq (fun w => ?_) w0 K
  unfold Instr.index
  rw [Sem.run_bind]
  simp only [asIntOf, Sem.run_pure, Result.andThen_ok]
  rw [Sem.run_bind, run_un Try.underlying72]
  simp only [Result.andThen_ok]
  rw [if_pos (by omega), Sem.run_bind, size_run Try.underlying5]
  simp only [Result.andThen_ok]
  rw [cells5]
  exact run_part_cell Try.underlying5 (by simp [byteV_bt (l := x) (i := 0) (by omega)])
theorem law12_awake (w : World) : Ret Try.prog 36 #[] w fun v w' => v = .bool true ∧ More w w' := by
  refine ret_of Try.func36 rfl (by kernel_rfl) (Nat.le_of_ble_eq_true (by kernel_rfl)) ?_
  simp (config := {maxSteps := 1000000}) only [↓zvD, zvU, ↓up_apply, ↓hv_apply, ↓upO_some, ↓upO_none, ↓ev_tmp, ↓ev_const, ↓ev_func, ↓ev_global, init, Nat.reduceEqDiff, Nat.reduceAdd, Nat.reduceMul, Nat.reduceSub, ↓reduceIte, Int.reduceEq, Int.reduceNe, Nat.reduceLeDiff, one, Value.cells, Int.reduceLE, Int.reduceLT, Int.reduceToNat, add_mk, reduceCtorEq, tyF]
  refine call_ok Try.call37 (frame_parse w none [] 0 (Cs.nil _ _) (by simp) (by simp)) ?_
  rintro _ w1 ⟨rfl, hm1⟩
  have e1 : frameM [] = packZ := by rfl
  have e2 : frameWhy [] = 1 := by rfl
  rw [e1, e2]
  simp (config := {maxSteps := 1000000}) only [↓zvD, zvU, ↓up_apply, ↓hv_apply, ↓upO_some, ↓upO_none, ↓ev_tmp, ↓ev_const, ↓ev_func, ↓ev_global, init, Nat.reduceEqDiff, Nat.reduceAdd, Nat.reduceMul, Nat.reduceSub, ↓reduceIte, Int.reduceEq, Int.reduceNe, Nat.reduceLeDiff, one, Value.cells, Int.reduceLE, Int.reduceLT, Int.reduceToNat, add_mk, reduceCtorEq, tyF, zerPack]
  refine pack_var flowZ_fit rfl fun w2 hm2 hb2 hs2 => ?_
  simp (config := {maxSteps := 1000000}) only [↓zvD, zvU, ↓up_apply, ↓hv_apply, ↓upO_some, ↓upO_none, ↓ev_tmp, ↓ev_const, ↓ev_func, ↓ev_global, init, Nat.reduceEqDiff, Nat.reduceAdd, Nat.reduceMul, Nat.reduceSub, ↓reduceIte, Int.reduceEq, Int.reduceNe, Nat.reduceLeDiff, one, Value.cells, Int.reduceLE, Int.reduceLT, Int.reduceToNat, add_mk, reduceCtorEq, tyF, flow_build0 w]
  refine call_ok Try.call39 (frame_key w2 flowZ flowZ_fit) ?_
  rintro _ w3 ⟨A, c, rfl, ho, hm3⟩
  have e3 : (keyM flowZ).length = 14 := by rfl
  rw [e3]
  simp (config := {maxSteps := 1000000}) only [↓zvD, zvU, ↓up_apply, ↓hv_apply, ↓upO_some, ↓upO_none, ↓ev_tmp, ↓ev_const, ↓ev_func, ↓ev_global, init, Nat.reduceEqDiff, Nat.reduceAdd, Nat.reduceMul, Nat.reduceSub, ↓reduceIte, Int.reduceEq, Int.reduceNe, Nat.reduceLeDiff, one, Value.cells, Int.reduceLE, Int.reduceLT, Int.reduceToNat, add_mk, reduceCtorEq, tyF]
  refine arr9 ?_
  simp (config := {maxSteps := 1000000}) only [↓zvD, zvU, ↓up_apply, ↓hv_apply, ↓upO_some, ↓upO_none, ↓ev_tmp, ↓ev_const, ↓ev_func, ↓ev_global, init, Nat.reduceEqDiff, Nat.reduceAdd, Nat.reduceMul, Nat.reduceSub, ↓reduceIte, Int.reduceEq, Int.reduceNe, Nat.reduceLeDiff, one, Value.cells, Int.reduceLE, Int.reduceLT, Int.reduceToNat, add_mk, reduceCtorEq, tyF]
  refine flow9 ?_
  have hf9 : ({ flowZ with src := src9 } : FlowM).Fit := ⟨by decide, by decide, rfl, rfl, by decide, by decide, by decide, by decide⟩
  simp (config := {maxSteps := 1000000}) only [↓zvD, zvU, ↓up_apply, ↓hv_apply, ↓upO_some, ↓upO_none, ↓ev_tmp, ↓ev_const, ↓ev_func, ↓ev_global, init, Nat.reduceEqDiff, Nat.reduceAdd, Nat.reduceMul, Nat.reduceSub, ↓reduceIte, Int.reduceEq, Int.reduceNe, Nat.reduceLeDiff, one, Value.cells, Int.reduceLE, Int.reduceLT, Int.reduceToNat, add_mk, reduceCtorEq, tyF]
  refine call_ok Try.call41 (frame_prefix w3 _ hf9) ?_
  rintro _ w4 ⟨rfl, hm4⟩
  have e4 : (prefM ({ flowZ with src := src9 } : FlowM)).cells = [.bool false, .int .u8 9, .int .u8 0, .int .u8 0, .int .u8 0, .int .u8 0, .int .u8 0, .int .u8 0] := rfl
  have l4 : (prefM ({ flowZ with src := src9 } : FlowM)).addr.length = 7 := prefM_len hf9
  have e5 : bt (prefM ({ flowZ with src := src9 } : FlowM)).addr 0 = 9 := by rfl
  have pa := pref_addr l4 w
  have ia := addr_at l4 w
  simp (config := {maxSteps := 1000000}) only [↓zvD, zvU, ↓up_apply, ↓hv_apply, ↓upO_some, ↓upO_none, ↓ev_tmp, ↓ev_const, ↓ev_func, ↓ev_global, init, Nat.reduceEqDiff, Nat.reduceAdd, Nat.reduceMul, Nat.reduceSub, ↓reduceIte, Int.reduceEq, Int.reduceNe, Nat.reduceLeDiff, one, Value.cells, Int.reduceLE, Int.reduceLT, Int.reduceToNat, add_mk, reduceCtorEq, tyF, pa, ia, e5]
  exact ((hm1.trans hm2).trans hm3).trans hm4
end Go.Proofs.Ytbknfmaefmbfdaa
