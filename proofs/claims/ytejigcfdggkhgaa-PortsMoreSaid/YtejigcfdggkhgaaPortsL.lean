/-
  Layer 11: PortsLater and PortsMore.
-/
import Derived.Test.YtejigcfdggkhgaaPortsR
namespace Go.Proofs.Ytejigcfdggkhgaa
open Go Go.RowKit Go.Proofs.RV
set_option linter.unusedSimpArgs false
set_option linter.unusedVariables false
set_option maxRecDepth 10000
set_option maxHeartbeats 4000000

theorem NetM.split {n : NetM} (A : Option Addr) (c : Nat) : n.cells A c = ([.int .u8 n.proto] ++ n.src.map byteV ++ n.dst.map byteV) ++ [.slice A n.body.length c, .bool n.first] := by simp [NetM.cells]
theorem NetM.setFirst {n : NetM} (h : n.Fit) (A : Option Addr) (c : Nat) (b : Bool) : (n.cells A c).set 34 (.bool b) = ({ n with first := b } : NetM).cells A c := by
  rw [NetM.split, NetM.split]
  have hl : ([Value.int .u8 n.proto] ++ n.src.map byteV ++ n.dst.map byteV).length = 33 := by simp [h.src, h.dst]
  rw [List.set_append_right _ _ (by omega), hl]
  rfl
theorem NetM.setBody {n : NetM} (h : n.Fit) (A A' : Option Addr) (c c' : Nat) (m : List UInt8) : (n.cells A c).set 33 (.slice A' m.length c') = ({ n with body := m } : NetM).cells A' c' := by
  rw [NetM.split, NetM.split]
  have hl : ([Value.int .u8 n.proto] ++ n.src.map byteV ++ n.dst.map byteV).length = 33 := by simp [h.src, h.dst]
  rw [List.set_append_right _ _ (by omega), hl]
  rfl
theorem NetM.setProto {n : NetM} (A : Option Addr) (c : Nat) (p : Int) : (n.cells A c).set 0 (.int .u8 p) = ({ n with proto := p } : NetM).cells A c := rfl
theorem sp16 (a : Value) (xs ys zs : List Value) (hx : xs.length = ys.length) : splice (a :: (xs ++ zs)) 1 ys = a :: (ys ++ zs) := by
  rw [splice_eq _ _ _ (by simp; omega)]
  rw [← hx, Nat.add_comm 1]
  simp [List.drop_append]
theorem NetM.setSrc {n : NetM} (h : n.Fit) (A : Option Addr) (c : Nat) (s : List UInt8) (hs : s.length = 16) : splice (n.cells A c) 1 (s.map byteV) = ({ n with src := s } : NetM).cells A c := by
  unfold NetM.cells
  exact sp16 _ _ _ _ (by simp [h.src, hs])
theorem NetM.setDst {n : NetM} (h : n.Fit) (A : Option Addr) (c : Nat) (s : List UInt8) (hs : s.length = 16) : splice (n.cells A c) 17 (s.map byteV) = ({ n with dst := s } : NetM).cells A c := by
  unfold NetM.cells
  rw [splice_eq _ _ _ (by simp [h.src, h.dst, hs])]
  simp [h.src, h.dst, hs, List.take_append, List.drop_append]
theorem NetM.Fit.first {n : NetM} (h : n.Fit) (b : Bool) : ({ n with first := b } : NetM).Fit := ⟨h.p0, h.p1, h.src, h.dst⟩
theorem NetM.Fit.withProto {n : NetM} (h : n.Fit) {p : Int} (hp : 0 ≤ p ∧ p < 256) : ({ n with proto := p } : NetM).Fit := ⟨hp.1, hp.2, h.src, h.dst⟩

theorem ports_later (w : World) (v6 : Bool) (n : NetM) (A : Option Addr) (c : Nat) (p : Int) (hn : n.Fit) (hA : Bs w A n.body) (hp : 0 ≤ p ∧ p < 256) :
    Ret Try.prog 4 #[.bool v6, .agg (n.cells A c).toArray, .int .u8 p] w fun v w' => v = .bool true ∧ More w w' := by
  refine ret_of Try.func4 rfl (by kernel_rfl) (Nat.le_of_ble_eq_true (by kernel_rfl)) ?_
  have hm1 := more_alloc w (.cells (n.cells A c).toArray 25)
  have hb1 := Blk.new w 25 (n.cells A c).toArray
  simp (config := {maxSteps := 1000000}) only [↓zvD, zvU, ↓up_apply, ↓hv_apply, ↓upO_some, ↓upO_none, ↓ev_tmp, ↓ev_const, ↓ev_func, ↓ev_global, init, Nat.reduceEqDiff, Nat.reduceAdd, Nat.reduceMul, Nat.reduceSub, ↓reduceIte, Int.reduceEq, Int.reduceNe, Nat.reduceLeDiff, one, Value.cells, Int.reduceLE, Int.reduceLT, Int.reduceToNat, add_mk, reduceCtorEq, tyF]
  generalize w.alloc (.cells (n.cells A c).toArray 25) = w1 at hm1 hb1 ⊢
  refine call_ok Try.call18 (law11_awake w1) ?_
  rintro _ w2 ⟨rfl, hm2⟩
  have hm12 : More w w2 := hm1.trans hm2
  have hb2 := hb1.more hm2
  have skip : callP Try.prog (.func (.func 18) #[] #[]) #[] w2 (fun v w' => v = .bool true ∧ More w w') :=
    call_ok Try.call18 (law11_awake w2) fun v w2 ⟨hv, hm2⟩ => ⟨hv, hm12.trans hm2⟩
  have r2 := hb2.all_eq 35 (NetM.cells_len hn _ _)
  simp (config := {maxSteps := 1000000}) only [↓zvD, zvU, ↓up_apply, ↓hv_apply, ↓upO_some, ↓upO_none, ↓ev_tmp, ↓ev_const, ↓ev_func, ↓ev_global, init, Nat.reduceEqDiff, Nat.reduceAdd, Nat.reduceMul, Nat.reduceSub, ↓reduceIte, Int.reduceEq, Int.reduceNe, Nat.reduceLeDiff, one, Value.cells, Int.reduceLE, Int.reduceLT, Int.reduceToNat, add_mk, reduceCtorEq, tyF, hb2.cell, NetM.cBody hn, r2]
  refine ⟨fun h => ?_, fun h => ?_⟩
  · refine call_ok Try.call18 (law11_awake w2) ?_
    rintro _ w3 ⟨rfl, hm3⟩
    simp (config := {maxSteps := 1000000}) only [↓zvD, zvU, ↓up_apply, ↓hv_apply, ↓upO_some, ↓upO_none, ↓ev_tmp, ↓ev_const, ↓ev_func, ↓ev_global, init, Nat.reduceEqDiff, Nat.reduceAdd, Nat.reduceMul, Nat.reduceSub, ↓reduceIte, Int.reduceEq, Int.reduceNe, Nat.reduceLeDiff, one, Value.cells, Int.reduceLE, Int.reduceLT, Int.reduceToNat, add_mk, reduceCtorEq, tyF]
    exact hm12.trans hm3
  refine st_cell hb2 (by rw [NetM.cells_len hn]; omega) rfl fun w3 k1 k2 => ?_
  have hm3 : More w w3 := k1.below hm12 (Nat.le_refl _)
  rw [NetM.setFirst hn] at k2
  have f3 := hn.first false
  have r3 := k2.all_eq 35 (NetM.cells_len f3 _ _)
  simp (config := {maxSteps := 1000000}) only [↓zvD, zvU, ↓up_apply, ↓hv_apply, ↓upO_some, ↓upO_none, ↓ev_tmp, ↓ev_const, ↓ev_func, ↓ev_global, init, Nat.reduceEqDiff, Nat.reduceAdd, Nat.reduceMul, Nat.reduceSub, ↓reduceIte, Int.reduceEq, Int.reduceNe, Nat.reduceLeDiff, one, Value.cells, Int.reduceLE, Int.reduceLT, Int.reduceToNat, add_mk, reduceCtorEq, tyF, r3]
  refine call_ok Try.call19 (ports_parse w3 v6 _ A c f3 (hA.more hm3) (by show n.body.length ≤ _; omega)) ?_
  rintro _ w4 ⟨rfl, hm4⟩
  have e0 : portsM v6 { n with first := false } = (0, 0, 0) := by unfold portsM; rw [if_pos rfl]
  rw [e0]
  have hb4 := k2.more hm4
  simp (config := {maxSteps := 1000000}) only [↓zvD, zvU, ↓up_apply, ↓hv_apply, ↓upO_some, ↓upO_none, ↓ev_tmp, ↓ev_const, ↓ev_func, ↓ev_global, init, Nat.reduceEqDiff, Nat.reduceAdd, Nat.reduceMul, Nat.reduceSub, ↓reduceIte, Int.reduceEq, Int.reduceNe, Nat.reduceLeDiff, one, Value.cells, Int.reduceLE, Int.reduceLT, Int.reduceToNat, add_mk, reduceCtorEq, tyF]
  refine st_cell hb4 (by rw [NetM.cells_len f3]; omega) rfl fun w5 k3 k4 => ?_
  rw [NetM.setFirst f3] at k4
  have f5 := hn.first true
  try simp (config := {maxSteps := 1000000}) only [↓zvD, zvU, ↓up_apply, ↓hv_apply, ↓upO_some, ↓upO_none, ↓ev_tmp, ↓ev_const, ↓ev_func, ↓ev_global, init, Nat.reduceEqDiff, Nat.reduceAdd, Nat.reduceMul, Nat.reduceSub, ↓reduceIte, Int.reduceEq, Int.reduceNe, Nat.reduceLeDiff, one, Value.cells, Int.reduceLE, Int.reduceLT, Int.reduceToNat, add_mk, reduceCtorEq, tyF]
  refine st_cell k4 (by rw [NetM.cells_len f5]; omega) rfl fun w6 k5 k6 => ?_
  rw [NetM.setProto] at k6
  have f6 := f5.withProto hp
  have hm6 : More w w6 := k5.below (k3.below (hm3.trans hm4) (Nat.le_refl _)) (Nat.le_refl _)
  have r6 := k6.all_eq 35 (NetM.cells_len f6 _ _)
  have call : ∀ K, (∀ w7, More w6 w7 → K (.tuple #[.int .u16 (portsM v6 { n with first := true, proto := p }).1, .int .u16 (portsM v6 { n with first := true, proto := p }).2.1, .int .i64 (portsM v6 { n with first := true, proto := p }).2.2]) w7) →
      callP Try.prog (.func (.func 19) #[] #[]) #[.bool v6, .agg (({ n with first := true, proto := p } : NetM).cells A c).toArray] w6 K := by
    intro K hK
    refine call_ok Try.call19 (ports_parse w6 v6 _ A c f6 (hA.more hm6) (by show n.body.length ≤ _; omega)) ?_
    rintro _ w7 ⟨rfl, hm7⟩
    exact hK w7 hm7
  have hcase := proto_cases v6 { n with first := true, proto := p }
  simp only [reduceCtorEq, false_or, true_and, Bool.true_eq_false] at hcase
  rcases hcase with ⟨h, rfl | rfl⟩ | ⟨h, rfl | rfl⟩ | ⟨rfl, h⟩ | ⟨rfl, h⟩ | ⟨h1, h2, ⟨rfl, h3⟩ | ⟨rfl, h3⟩⟩
  any_goals (simp (config := {maxSteps := 1000000}) only [↓zvD, zvU, ↓up_apply, ↓hv_apply, ↓upO_some, ↓upO_none, ↓ev_tmp, ↓ev_const, ↓ev_func, ↓ev_global, init, Nat.reduceEqDiff, Nat.reduceAdd, Nat.reduceMul, Nat.reduceSub, ↓reduceIte, Int.reduceEq, Int.reduceNe, Nat.reduceLeDiff, one, Value.cells, Int.reduceLE, Int.reduceLT, Int.reduceToNat, add_mk, reduceCtorEq, tyF, h]; exact hm6)
  · simp (config := {maxSteps := 1000000}) only [↓zvD, zvU, ↓up_apply, ↓hv_apply, ↓upO_some, ↓upO_none, ↓ev_tmp, ↓ev_const, ↓ev_func, ↓ev_global, init, Nat.reduceEqDiff, Nat.reduceAdd, Nat.reduceMul, Nat.reduceSub, ↓reduceIte, Int.reduceEq, Int.reduceNe, Nat.reduceLeDiff, one, Value.cells, Int.reduceLE, Int.reduceLT, Int.reduceToNat, add_mk, reduceCtorEq, tyF, h1, h2, h3, r6]
    refine call _ fun w7 hm7 => ?_
    have e7 : portsM true { n with first := true, proto := p } = (0, 0, 0) := by simp [portsM, twoPorts, onePort, h1, h2, h3]
    rw [e7]
    simp (config := {maxSteps := 1000000}) only [↓zvD, zvU, ↓up_apply, ↓hv_apply, ↓upO_some, ↓upO_none, ↓ev_tmp, ↓ev_const, ↓ev_func, ↓ev_global, init, Nat.reduceEqDiff, Nat.reduceAdd, Nat.reduceMul, Nat.reduceSub, ↓reduceIte, Int.reduceEq, Int.reduceNe, Nat.reduceLeDiff, one, Value.cells, Int.reduceLE, Int.reduceLT, Int.reduceToNat, add_mk, reduceCtorEq, tyF]
    exact hm6.trans hm7
  · simp (config := {maxSteps := 1000000}) only [↓zvD, zvU, ↓up_apply, ↓hv_apply, ↓upO_some, ↓upO_none, ↓ev_tmp, ↓ev_const, ↓ev_func, ↓ev_global, init, Nat.reduceEqDiff, Nat.reduceAdd, Nat.reduceMul, Nat.reduceSub, ↓reduceIte, Int.reduceEq, Int.reduceNe, Nat.reduceLeDiff, one, Value.cells, Int.reduceLE, Int.reduceLT, Int.reduceToNat, add_mk, reduceCtorEq, tyF, h1, h2, h3, r6]
    refine call _ fun w7 hm7 => ?_
    have e7 : portsM false { n with first := true, proto := p } = (0, 0, 0) := by simp [portsM, twoPorts, onePort, h1, h2, h3]
    rw [e7]
    simp (config := {maxSteps := 1000000}) only [↓zvD, zvU, ↓up_apply, ↓hv_apply, ↓upO_some, ↓upO_none, ↓ev_tmp, ↓ev_const, ↓ev_func, ↓ev_global, init, Nat.reduceEqDiff, Nat.reduceAdd, Nat.reduceMul, Nat.reduceSub, ↓reduceIte, Int.reduceEq, Int.reduceNe, Nat.reduceLeDiff, one, Value.cells, Int.reduceLE, Int.reduceLT, Int.reduceToNat, add_mk, reduceCtorEq, tyF]
    exact hm6.trans hm7
end Go.Proofs.Ytejigcfdggkhgaa
