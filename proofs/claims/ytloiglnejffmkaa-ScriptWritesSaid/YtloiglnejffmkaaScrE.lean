/-
  Layer 31: the reference's 'one'.
-/
import Derived.Test.YtloiglnejffmkaaScrD
import Derived.Test.YtloiglnejffmkaaBn
namespace Go.Proofs.Ytloiglnejffmkaa
open Go Go.RowKit Go.Proofs.RV
set_option linter.unusedSimpArgs false
set_option linter.unusedVariables false
set_option maxRecDepth 10000
set_option maxHeartbeats 4000000

theorem rin_one (A : Option Addr) (n c : Nat) (b : Bool) : ∀ u ∈ [Value.slice A n c, Value.bool b], u.oneCell' = true := by
  intro u hu
  simp only [List.mem_cons, List.not_mem_nil, or_false] at hu
  rcases hu with rfl | rfl <;> rfl
def KeyJ (w : World) (p z r : Nat) (x : List UInt8) (s : InM) (A : Option Addr) (c : Nat) (v : Value) (w' : World) : Prop :=
  ∃ j : Nat, v = .int .i64 j ∧ j ≤ x.length ∧ Blk w' p 86 ((opK 4 (padTo 16 (x.take j))).cells (.slice none 0 0)) ∧ Blk w' z 86 ((opZ 0).cells (.slice none 0 0)) ∧ Blk w' r 51 [.slice A (nrm s).length c, .bool s.bad] ∧ More w w'
def AddrJ (w : World) (p z r : Nat) (b : Bool) (x : List UInt8) (s : InM) (A : Option Addr) (c : Nat) (v : Value) (w' : World) : Prop :=
  ∃ j : Nat, v = .int .i64 j ∧ j ≤ x.length ∧ Blk w' p 86 ((opP 5 b (padTo 7 (x.take j))).cells (.slice none 0 0)) ∧ Blk w' z 86 ((opZ 0).cells (.slice none 0 0)) ∧ Blk w' r 51 [.slice A (nrm s).length c, .bool s.bad] ∧ More w w'
theorem one_1 (w0 w : World) (hw0 : More w0 w) (A : Option Addr) (x : UInt8) (rest : List UInt8) (c : Nat) (hA : Bs w0 A (x :: rest)) (hc : (x :: rest).length ≤ c) (hl : rest.length ≤ 1000000) (hkk : (x.toNat : Int) = 1) :
    Ret Try.prog 86 #[.slice A (x :: rest).length c] w (OneR w0 w (rest.length + 1) (takeM x.toNat ⟨rest, false⟩)) := by
  refine ret_of Try.func86 rfl (by kernel_rfl) (Nat.le_of_ble_eq_true (by kernel_rfl)) ?_
  obtain ⟨a, rfl⟩ := hA.isAt (by simp)
  have hx0 : ∀ w', More w w' → w'.cell? (a.add 0) = some (.int .u8 x.toNat) := fun w' h => by
    obtain ⟨b, hb, h0⟩ := (hA.more (hw0.trans h)) 0 (byteV x) rfl
    cases hb
    exact h0
  have hm1 := more_alloc w (.cells ((opZ 0).cells (.slice none 0 0)).toArray 86)
  have hb1 := Blk.new w 86 ((opZ 0).cells (.slice none 0 0)).toArray
  have s1 := size_alloc w (.cells ((opZ 0).cells (.slice none 0 0)).toArray 86)
  have c1 := hx0 _ hm1
  simp (config := {maxSteps := 1000000}) only [↓zvD, zvU, ↓up_apply, ↓hv_apply, ↓upO_some, ↓upO_none, ↓ev_tmp, ↓ev_const, ↓ev_func, ↓ev_global, init, Nat.reduceEqDiff, Nat.reduceAdd, Nat.reduceMul, Nat.reduceSub, ↓reduceIte, Int.reduceEq, Int.reduceNe, Nat.reduceLeDiff, one, Value.cells, Int.reduceLE, Int.reduceLT, Int.reduceToNat, add_mk, reduceCtorEq, List.mem_range'_1, true_and, and_true, and_false, false_and, Nat.reduceLT, Nat.reduceLeDiff, tyF, zerROp]
  generalize w.alloc (.cells ((opZ 0).cells (.slice none 0 0)).toArray 86) = w1 at hm1 hb1 s1 c1 ⊢
  refine ⟨by simp only [List.length_cons]; omega, ?_⟩
  simp (config := {maxSteps := 1000000}) only [↓zvD, zvU, ↓up_apply, ↓hv_apply, ↓upO_some, ↓upO_none, ↓ev_tmp, ↓ev_const, ↓ev_func, ↓ev_global, init, Nat.reduceEqDiff, Nat.reduceAdd, Nat.reduceMul, Nat.reduceSub, ↓reduceIte, Int.reduceEq, Int.reduceNe, Nat.reduceLeDiff, one, Value.cells, Int.reduceLE, Int.reduceLT, Int.reduceToNat, add_mk, reduceCtorEq, List.mem_range'_1, true_and, and_true, and_false, false_and, Nat.reduceLT, Nat.reduceLeDiff, tyF, c1, rop_build x.toNat w1, zerROp]
  have hm2 := more_alloc w1 (.cells ((opZ 0).cells (.slice none 0 0)).toArray 86)
  have hb2 := Blk.new w1 86 ((opZ 0).cells (.slice none 0 0)).toArray
  have s2 := size_alloc w1 (.cells ((opZ 0).cells (.slice none 0 0)).toArray 86)
  generalize w1.alloc (.cells ((opZ 0).cells (.slice none 0 0)).toArray 86) = w2 at hm2 hb2 s2 ⊢
  rw [List.toList_toArray] at hb1 hb2
  have hz2 := hb1.more hm2
  replace hm2 := hm1.trans hm2
  refine st_all hb2 (by simp [SOp.len (opZ_fit _)]) (SOp.len (opZ_fit 0) _) (fun u hu => SOp.one (opZ x.toNat) (sl := .slice none 0 0) rfl u hu) fun w3 j1 j2 => ?_
  rw [List.toList_toArray] at j2
  have hz3 := j1.blk hz2 (by omega)
  have s3 := j1.size
  have hm3 : More w w3 := j1.below hm2 (by omega)
  have g1 : (1 : Nat) ≤ (x :: rest).length := by simp
  simp (config := {maxSteps := 1000000}) only [↓zvD, zvU, ↓up_apply, ↓hv_apply, ↓upO_some, ↓upO_none, ↓ev_tmp, ↓ev_const, ↓ev_func, ↓ev_global, init, Nat.reduceEqDiff, Nat.reduceAdd, Nat.reduceMul, Nat.reduceSub, ↓reduceIte, Int.reduceEq, Int.reduceNe, Nat.reduceLeDiff, one, Value.cells, Int.reduceLE, Int.reduceLT, Int.reduceToNat, add_mk, reduceCtorEq, List.mem_range'_1, true_and, and_true, and_false, false_and, Nat.reduceLT, Nat.reduceLeDiff, tyF, rin_build _ _ _ w3, zer51, g1]
  have hm4 := more_alloc w3 (.cells #[.slice none 0 0, .bool false] 51)
  have hb4 := Blk.new w3 51 #[.slice none 0 0, .bool false]
  have s4 := size_alloc w3 (.cells #[.slice none 0 0, .bool false] 51)
  generalize w3.alloc (.cells #[.slice none 0 0, .bool false] 51) = w4 at hm4 hb4 s4 ⊢
  refine st_all hb4 rfl rfl (by intro u hu; simp at hu; rcases hu with rfl | rfl <;> rfl) fun w5 k1 k2 => ?_
  rw [List.toList_toArray] at k2
  have hz5 := k1.blk (hz3.more hm4) (by omega)
  have hp5 := k1.blk (j2.more hm4) (by omega)
  have s5 := k1.size
  have hm5 : More w w5 := k1.below (hm3.trans hm4) (by omega)
  have hRI5 : RIs w0 ⟨rest, false⟩ (RV.adv (some a) c 1 1) (c - 1) := by
    refine ⟨?_, by rw [nrm_ok rfl]; simp at hc; show rest.length ≤ _; omega⟩
    rw [nrm_ok rfl]
    exact Cs.advB (k := 1) hA hc
  have hR5 : Blk w5 w3.heap.size 51 [.slice (RV.adv (some a) c 1 1) (nrm ⟨rest, false⟩).length (c - 1), .bool (InM.mk rest false).bad] := k2
  have hsl : (InM.mk rest false).rest.length = rest.length := rfl
  have hkx : (x.toNat : Int) = x.toNat := rfl
  generalize hAr : RV.adv (some a) c 1 1 = Ar at hRI5 hR5
  generalize hcr : c - 1 = cr at hRI5 hR5
  generalize hss : InM.mk rest false = s at hRI5 hR5 hsl ⊢
  generalize hzz : w.heap.size = z at *
  generalize hpp : w1.heap.size = p at *
  generalize hrr : w3.heap.size = r at *
  have hrest := takeM_rest x.toNat s
  have kc := hp5.cell 0
  have kc : w5.cell? ⟨p, 0, none⟩ = some (.int .u8 x.toNat) := by rw [hp5.cell]; rfl
  generalize hk : (x.toNat : Int) = k at *
  unfold takeM at hrest ⊢
  have hv5 := hR5.all_eq 2 rfl
  subst hkk
  rw [if_pos rfl] at hrest ⊢
  simp (config := {maxSteps := 1000000}) only [↓zvD, zvU, ↓up_apply, ↓hv_apply, ↓upO_some, ↓upO_none, ↓ev_tmp, ↓ev_const, ↓ev_func, ↓ev_global, init, Nat.reduceEqDiff, Nat.reduceAdd, Nat.reduceMul, Nat.reduceSub, ↓reduceIte, Int.reduceEq, Int.reduceNe, Nat.reduceLeDiff, one, Value.cells, Int.reduceLE, Int.reduceLT, Int.reduceToNat, add_mk, reduceCtorEq, List.mem_range'_1, true_and, and_true, and_false, false_and, Nat.reduceLT, Nat.reduceLeDiff, tyF, kc, hv5]
  refine call_ok Try.call30 (refI_take w0 _ s _ _ 8 hRI5 (hw0.trans hm5) (by omega)) ?_
  rintro _ w6 ⟨A6, c6, rfl, hRI6, hm6⟩
  simp (config := {maxSteps := 1000000}) only [↓zvD, zvU, ↓up_apply, ↓hv_apply, ↓upO_some, ↓upO_none, ↓ev_tmp, ↓ev_const, ↓ev_func, ↓ev_global, init, Nat.reduceEqDiff, Nat.reduceAdd, Nat.reduceMul, Nat.reduceSub, ↓reduceIte, Int.reduceEq, Int.reduceNe, Nat.reduceLeDiff, one, Value.cells, Int.reduceLE, Int.reduceLT, Int.reduceToNat, add_mk, reduceCtorEq, List.mem_range'_1, true_and, and_true, and_false, false_and, Nat.reduceLT, Nat.reduceLeDiff, tyF]
  refine st_all (hR5.more hm6) rfl rfl (rin_one A6 (nrm (s.take 8).2).length c6 ((s.take 8).2).bad) fun w7 i1 hR7 => ?_
  rw [List.toList_toArray] at hR7
  have hp7 := i1.blk (hp5.more hm6) (by omega)
  have hz7 := i1.blk (hz5.more hm6) (by omega)
  have hm7 : More w w7 := i1.below (hm5.trans hm6) (by omega)
  try simp (config := {maxSteps := 1000000}) only [↓zvD, zvU, ↓up_apply, ↓hv_apply, ↓upO_some, ↓upO_none, ↓ev_tmp, ↓ev_const, ↓ev_func, ↓ev_global, init, Nat.reduceEqDiff, Nat.reduceAdd, Nat.reduceMul, Nat.reduceSub, ↓reduceIte, Int.reduceEq, Int.reduceNe, Nat.reduceLeDiff, one, Value.cells, Int.reduceLE, Int.reduceLT, Int.reduceToNat, add_mk, reduceCtorEq, List.mem_range'_1, true_and, and_true, and_false, false_and, Nat.reduceLT, Nat.reduceLeDiff, tyF]
  refine st_cell hp7 (by rw [SOp.len (opZ_fit 1)]; omega) rfl fun w8 e1 e2 => ?_
  have hp8 : Blk w8 p 86 ((opT 1 (IntKind.i64.wrap (be (s.take 8).1))).cells (.slice none 0 0)) := e2
  have fz := (e1.blk hz7 (by omega))
  have fp := hp8
  have fR := (e1.blk hR7 (by omega))
  have fm := (e1.below hm7 (by omega))
  have fA : Bs w0 (none : Option Addr) (opT 1 (IntKind.i64.wrap (be (s.take 8).1))).b := (Cs.nil w0 _)
  cases hbd : ((s.take 8).2).bad with
  | true =>
    have cb := fR.cell 1
    simp only [hbd, List.getElem?_cons_succ, List.getElem?_cons_zero] at cb
    try simp (config := {maxSteps := 1000000}) only [↓zvD, zvU, ↓up_apply, ↓hv_apply, ↓upO_some, ↓upO_none, ↓ev_tmp, ↓ev_const, ↓ev_func, ↓ev_global, init, Nat.reduceEqDiff, Nat.reduceAdd, Nat.reduceMul, Nat.reduceSub, ↓reduceIte, Int.reduceEq, Int.reduceNe, Nat.reduceLeDiff, one, Value.cells, Int.reduceLE, Int.reduceLT, Int.reduceToNat, add_mk, reduceCtorEq, List.mem_range'_1, true_and, and_true, and_false, false_and, Nat.reduceLT, Nat.reduceLeDiff, tyF]
    simp only [cb]
    simp (config := {maxSteps := 1000000}) only [↓zvD, zvU, ↓up_apply, ↓hv_apply, ↓upO_some, ↓upO_none, ↓ev_tmp, ↓ev_const, ↓ev_func, ↓ev_global, init, Nat.reduceEqDiff, Nat.reduceAdd, Nat.reduceMul, Nat.reduceSub, ↓reduceIte, Int.reduceEq, Int.reduceNe, Nat.reduceLeDiff, one, Value.cells, Int.reduceLE, Int.reduceLT, Int.reduceToNat, add_mk, reduceCtorEq, List.mem_range'_1, true_and, and_true, and_false, false_and, Nat.reduceLT, Nat.reduceLeDiff, tyF]
    rw [rop_build0 w]
    try simp (config := {maxSteps := 1000000}) only [↓zvD, zvU, ↓up_apply, ↓hv_apply, ↓upO_some, ↓upO_none, ↓ev_tmp, ↓ev_const, ↓ev_func, ↓ev_global, init, Nat.reduceEqDiff, Nat.reduceAdd, Nat.reduceMul, Nat.reduceSub, ↓reduceIte, Int.reduceEq, Int.reduceNe, Nat.reduceLeDiff, one, Value.cells, Int.reduceLE, Int.reduceLT, Int.reduceToNat, add_mk, reduceCtorEq, List.mem_range'_1, true_and, and_true, and_false, false_and, Nat.reduceLT, Nat.reduceLeDiff, tyF]
    rw [st_same_eq fz (SOp.len (opZ_fit 0) _) (SOp.one (opZ 0) (sl := .slice none 0 0) rfl)]
    have fzv := fz.all_eq 49 (SOp.len (opZ_fit 0) _)
    try simp (config := {maxSteps := 1000000}) only [↓zvD, zvU, ↓up_apply, ↓hv_apply, ↓upO_some, ↓upO_none, ↓ev_tmp, ↓ev_const, ↓ev_func, ↓ev_global, init, Nat.reduceEqDiff, Nat.reduceAdd, Nat.reduceMul, Nat.reduceSub, ↓reduceIte, Int.reduceEq, Int.reduceNe, Nat.reduceLeDiff, one, Value.cells, Int.reduceLE, Int.reduceLT, Int.reduceToNat, add_mk, reduceCtorEq, List.mem_range'_1, true_and, and_true, and_false, false_and, Nat.reduceLT, Nat.reduceLeDiff, tyF]
    try simp only [fzv]
    try simp (config := {maxSteps := 1000000}) only [↓zvD, zvU, ↓up_apply, ↓hv_apply, ↓upO_some, ↓upO_none, ↓ev_tmp, ↓ev_const, ↓ev_func, ↓ev_global, init, Nat.reduceEqDiff, Nat.reduceAdd, Nat.reduceMul, Nat.reduceSub, ↓reduceIte, Int.reduceEq, Int.reduceNe, Nat.reduceLeDiff, one, Value.cells, Int.reduceLE, Int.reduceLT, Int.reduceToNat, add_mk, reduceCtorEq, List.mem_range'_1, true_and, and_true, and_false, false_and, Nat.reduceLT, Nat.reduceLeDiff, tyF]
    exact ⟨fun _ => rfl, fun h => absurd (hbd.symm.trans h) (by simp), fm⟩
  | false =>
    have cb := fR.cell 1
    simp only [hbd, List.getElem?_cons_succ, List.getElem?_cons_zero] at cb
    have ca := fR.cell 0
    simp only [List.getElem?_cons_zero] at ca
    have fps := fm.size
    try simp (config := {maxSteps := 1000000}) only [↓zvD, zvU, ↓up_apply, ↓hv_apply, ↓upO_some, ↓upO_none, ↓ev_tmp, ↓ev_const, ↓ev_func, ↓ev_global, init, Nat.reduceEqDiff, Nat.reduceAdd, Nat.reduceMul, Nat.reduceSub, ↓reduceIte, Int.reduceEq, Int.reduceNe, Nat.reduceLeDiff, one, Value.cells, Int.reduceLE, Int.reduceLT, Int.reduceToNat, add_mk, reduceCtorEq, List.mem_range'_1, true_and, and_true, and_false, false_and, Nat.reduceLT, Nat.reduceLeDiff, tyF]
    simp only [cb]
    try simp (config := {maxSteps := 1000000}) only [↓zvD, zvU, ↓up_apply, ↓hv_apply, ↓upO_some, ↓upO_none, ↓ev_tmp, ↓ev_const, ↓ev_func, ↓ev_global, init, Nat.reduceEqDiff, Nat.reduceAdd, Nat.reduceMul, Nat.reduceSub, ↓reduceIte, Int.reduceEq, Int.reduceNe, Nat.reduceLeDiff, one, Value.cells, Int.reduceLE, Int.reduceLT, Int.reduceToNat, add_mk, reduceCtorEq, List.mem_range'_1, true_and, and_true, and_false, false_and, Nat.reduceLT, Nat.reduceLeDiff, tyF]
    refine draw_name fun K hK => ?_
    refine draw_finB z (by omega) 86 ((opT 1 (IntKind.i64.wrap (be (s.take 8).1))).cells (.slice none (opT 1 (IntKind.i64.wrap (be (s.take 8).1))).b.length 0)) 8 [[], [], [1], [], [3], [3, 4], [1, 2, 3, 4, 5], [0], [0, 1, 2, 3, 4, 5, 6, 7]] [(0, RV.IsV (.agg ((opT 1 (IntKind.i64.wrap (be (s.take 8).1))).cells (.slice none (opT 1 (IntKind.i64.wrap (be (s.take 8).1))).b.length 0)).toArray)), (4, RV.IsV (.slice A6 (nrm (s.take 8).2).length c6)), (7, fun _ w' => Blk w' z 86 ((opT 1 (IntKind.i64.wrap (be (s.take 8).1))).cells (.slice none (opT 1 (IntKind.i64.wrap (be (s.take 8).1))).b.length 0)))] mixed (by kernel_rfl) (by kernel_rfl) ?_ ?_
    · intro y hy v' a' b' hab hya
      simp only [List.mem_cons, List.not_mem_nil, or_false] at hy
      rcases hy with rfl | rfl | rfl
      · exact hya
      · exact hya
      · exact hab.done hya
    try simp (config := {maxSteps := 1000000}) only [↓zvD, zvU, ↓zqD, ↓up_apply, ↓hv_apply, ↓upO_some, ↓upO_none, ↓ev_tmp, ↓ev_const, ↓ev_func, ↓ev_global, init, Nat.reduceEqDiff, Nat.reduceAdd, Nat.reduceMul, Nat.reduceSub, ↓reduceIte, Int.reduceEq, Int.reduceNe, Nat.reduceLeDiff, one, Value.cells, Int.reduceLE, Int.reduceLT, Int.reduceToNat, add_mk, reduceCtorEq, List.mem_range'_1, true_and, and_true, and_false, false_and, Nat.reduceLT, Nat.reduceLeDiff, tyF]
    refine ⟨fun w1' hf => ?_, ?_⟩
    · have q1 := (hf.done fp).all_eq 49 (SOp.len (⟨rfl, rfl, rfl⟩ : SOp.Fit (opT 1 (IntKind.i64.wrap (be (s.take 8).1)))) _)
      simp only [q1]
      try simp (config := {maxSteps := 1000000}) only [↓zvD, zvU, ↓zqD, ↓up_apply, ↓hv_apply, ↓upO_some, ↓upO_none, ↓ev_tmp, ↓ev_const, ↓ev_func, ↓ev_global, init, Nat.reduceEqDiff, Nat.reduceAdd, Nat.reduceMul, Nat.reduceSub, ↓reduceIte, Int.reduceEq, Int.reduceNe, Nat.reduceLeDiff, one, Value.cells, Int.reduceLE, Int.reduceLT, Int.reduceToNat, add_mk, reduceCtorEq, List.mem_range'_1, true_and, and_true, and_false, false_and, Nat.reduceLT, Nat.reduceLeDiff, tyF]
      exact ⟨Fin.refl _ _ _ _, rfl⟩
    rintro _ ⟨w1', hf1, rfl⟩
    try simp (config := {maxSteps := 1000000}) only [↓zvD, zvU, ↓zqD, ↓up_apply, ↓hv_apply, ↓upO_some, ↓upO_none, ↓ev_tmp, ↓ev_const, ↓ev_func, ↓ev_global, init, Nat.reduceEqDiff, Nat.reduceAdd, Nat.reduceMul, Nat.reduceSub, ↓reduceIte, Int.reduceEq, Int.reduceNe, Nat.reduceLeDiff, one, Value.cells, Int.reduceLE, Int.reduceLT, Int.reduceToNat, add_mk, reduceCtorEq, List.mem_range'_1, true_and, and_true, and_false, false_and, Nat.reduceLT, Nat.reduceLeDiff, tyF]
    refine ⟨fun w1'' hf => ?_, ?_⟩
    · have q1 := (hf.blk _ _ _ (by decide) fR).cell 0
      simp only [List.getElem?_cons_zero] at q1
      simp only [q1]
      try simp (config := {maxSteps := 1000000}) only [↓zvD, zvU, ↓zqD, ↓up_apply, ↓hv_apply, ↓upO_some, ↓upO_none, ↓ev_tmp, ↓ev_const, ↓ev_func, ↓ev_global, init, Nat.reduceEqDiff, Nat.reduceAdd, Nat.reduceMul, Nat.reduceSub, ↓reduceIte, Int.reduceEq, Int.reduceNe, Nat.reduceLeDiff, one, Value.cells, Int.reduceLE, Int.reduceLT, Int.reduceToNat, add_mk, reduceCtorEq, List.mem_range'_1, true_and, and_true, and_false, false_and, Nat.reduceLT, Nat.reduceLeDiff, tyF]
      exact ⟨Fin.refl _ _ _ _, rfl⟩
    rintro _ ⟨w2', hf2, _, rfl⟩
    have el : IntKind.i64.wrap (((x :: rest).length : Int) - ((nrm (s.take 8).2).length : Int)) = ((rest.length + 1 : Nat) : Int) - (((s.take 8).2).rest.length : Int) := by
      rw [nrm_ok hbd, List.length_cons]
      have : ((s.take 8).2).rest.length ≤ rest.length := by rw [← hsl]; exact hrest
      exact w64 (by omega) (by omega)
    try simp (config := {maxSteps := 1000000}) only [↓zvD, zvU, ↓zqD, ↓up_apply, ↓hv_apply, ↓upO_some, ↓upO_none, ↓ev_tmp, ↓ev_const, ↓ev_func, ↓ev_global, init, Nat.reduceEqDiff, Nat.reduceAdd, Nat.reduceMul, Nat.reduceSub, ↓reduceIte, Int.reduceEq, Int.reduceNe, Nat.reduceLeDiff, one, Value.cells, Int.reduceLE, Int.reduceLT, Int.reduceToNat, add_mk, reduceCtorEq, List.mem_range'_1, true_and, and_true, and_false, false_and, Nat.reduceLT, Nat.reduceLeDiff, tyF, el]
    refine ⟨fun w3' hf _ => ?_, ?_⟩
    · obtain ⟨cs3, g3, g4⟩ := hf.some ⟨_, fz, by rw [SOp.len (opZ_fit 0), SOp.len (⟨rfl, rfl, rfl⟩ : SOp.Fit (opT 1 (IntKind.i64.wrap (be (s.take 8).1))))]⟩
      refine st_all g3 (by simp [SOp.len (⟨rfl, rfl, rfl⟩ : SOp.Fit (opT 1 (IntKind.i64.wrap (be (s.take 8).1))))]) (by rw [g4, SOp.len (⟨rfl, rfl, rfl⟩ : SOp.Fit (opT 1 (IntKind.i64.wrap (be (s.take 8).1))))]) (fun u hu => SOp.one (opT 1 (IntKind.i64.wrap (be (s.take 8).1))) (sl := .slice none (opT 1 (IntKind.i64.wrap (be (s.take 8).1))).b.length 0) rfl u hu) fun w4' k1' k2' => ?_
      rw [List.toList_toArray] at k2'
      exact ⟨Fin.of_wr k1' g3 k2' (Nat.le_refl _), k2'⟩
    rintro _ ⟨w3', hf3, _, fz3⟩
    try simp (config := {maxSteps := 1000000}) only [↓zvD, zvU, ↓zqD, ↓up_apply, ↓hv_apply, ↓upO_some, ↓upO_none, ↓ev_tmp, ↓ev_const, ↓ev_func, ↓ev_global, init, Nat.reduceEqDiff, Nat.reduceAdd, Nat.reduceMul, Nat.reduceSub, ↓reduceIte, Int.reduceEq, Int.reduceNe, Nat.reduceLeDiff, one, Value.cells, Int.reduceLE, Int.reduceLT, Int.reduceToNat, add_mk, reduceCtorEq, List.mem_range'_1, true_and, and_true, and_false, false_and, Nat.reduceLT, Nat.reduceLeDiff, tyF, el]
    intro w4' hf4 hd4
    have fz4 : Blk w4' z 86 ((opT 1 (IntKind.i64.wrap (be (s.take 8).1))).cells (.slice none (opT 1 (IntKind.i64.wrap (be (s.take 8).1))).b.length 0)) := hd4 (7, fun w' => Blk w' z 86 ((opT 1 (IntKind.i64.wrap (be (s.take 8).1))).cells (.slice none (opT 1 (IntKind.i64.wrap (be (s.take 8).1))).b.length 0))) (by simp)
    have fzv := fz4.all_eq 49 (SOp.len (⟨rfl, rfl, rfl⟩ : SOp.Fit (opT 1 (IntKind.i64.wrap (be (s.take 8).1)))) _)
    try rw [stop1]
    try simp (config := {maxSteps := 1000000}) only [↓zvD, zvU, ↓up_apply, ↓hv_apply, ↓upO_some, ↓upO_none, ↓ev_tmp, ↓ev_const, ↓ev_func, ↓ev_global, init, Nat.reduceEqDiff, Nat.reduceAdd, Nat.reduceMul, Nat.reduceSub, ↓reduceIte, Int.reduceEq, Int.reduceNe, Nat.reduceLeDiff, one, Value.cells, Int.reduceLE, Int.reduceLT, Int.reduceToNat, add_mk, reduceCtorEq, List.mem_range'_1, true_and, and_true, and_false, false_and, Nat.reduceLT, Nat.reduceLeDiff, tyF, el]
    refine hK _ _ ?_
    clear hK K
    try simp (config := {maxSteps := 1000000}) only [↓zvD, zvU, ↓up_apply, ↓hv_apply, ↓upO_some, ↓upO_none, ↓ev_tmp, ↓ev_const, ↓ev_func, ↓ev_global, init, Nat.reduceEqDiff, Nat.reduceAdd, Nat.reduceMul, Nat.reduceSub, ↓reduceIte, Int.reduceEq, Int.reduceNe, Nat.reduceLeDiff, one, Value.cells, Int.reduceLE, Int.reduceLT, Int.reduceToNat, add_mk, reduceCtorEq, List.mem_range'_1, true_and, and_true, and_false, false_and, Nat.reduceLT, Nat.reduceLeDiff, tyF, p_nil]
    try simp only [fzv]
    try simp (config := {maxSteps := 1000000}) only [↓zvD, zvU, ↓up_apply, ↓hv_apply, ↓upO_some, ↓upO_none, ↓ev_tmp, ↓ev_const, ↓ev_func, ↓ev_global, init, Nat.reduceEqDiff, Nat.reduceAdd, Nat.reduceMul, Nat.reduceSub, ↓reduceIte, Int.reduceEq, Int.reduceNe, Nat.reduceLeDiff, one, Value.cells, Int.reduceLE, Int.reduceLT, Int.reduceToNat, add_mk, reduceCtorEq, List.mem_range'_1, true_and, and_true, and_false, false_and, Nat.reduceLT, Nat.reduceLeDiff, tyF]
    have hmw : More w w4' := Below.trans fm (by rw [hzz]; exact hf4.below)
    exact ⟨fun h => absurd (hbd.symm.trans h) (by simp), fun _ => ⟨none, 0, rfl, fA, (by simp [opT])⟩, hmw⟩
theorem one_2 (w0 w : World) (hw0 : More w0 w) (A : Option Addr) (x : UInt8) (rest : List UInt8) (c : Nat) (hA : Bs w0 A (x :: rest)) (hc : (x :: rest).length ≤ c) (hl : rest.length ≤ 1000000) (hkk : (x.toNat : Int) = 2) :
    Ret Try.prog 86 #[.slice A (x :: rest).length c] w (OneR w0 w (rest.length + 1) (takeM x.toNat ⟨rest, false⟩)) := by
  refine ret_of Try.func86 rfl (by kernel_rfl) (Nat.le_of_ble_eq_true (by kernel_rfl)) ?_
  obtain ⟨a, rfl⟩ := hA.isAt (by simp)
  have hx0 : ∀ w', More w w' → w'.cell? (a.add 0) = some (.int .u8 x.toNat) := fun w' h => by
    obtain ⟨b, hb, h0⟩ := (hA.more (hw0.trans h)) 0 (byteV x) rfl
    cases hb
    exact h0
  have hm1 := more_alloc w (.cells ((opZ 0).cells (.slice none 0 0)).toArray 86)
  have hb1 := Blk.new w 86 ((opZ 0).cells (.slice none 0 0)).toArray
  have s1 := size_alloc w (.cells ((opZ 0).cells (.slice none 0 0)).toArray 86)
  have c1 := hx0 _ hm1
  simp (config := {maxSteps := 1000000}) only [↓zvD, zvU, ↓up_apply, ↓hv_apply, ↓upO_some, ↓upO_none, ↓ev_tmp, ↓ev_const, ↓ev_func, ↓ev_global, init, Nat.reduceEqDiff, Nat.reduceAdd, Nat.reduceMul, Nat.reduceSub, ↓reduceIte, Int.reduceEq, Int.reduceNe, Nat.reduceLeDiff, one, Value.cells, Int.reduceLE, Int.reduceLT, Int.reduceToNat, add_mk, reduceCtorEq, List.mem_range'_1, true_and, and_true, and_false, false_and, Nat.reduceLT, Nat.reduceLeDiff, tyF, zerROp]
  generalize w.alloc (.cells ((opZ 0).cells (.slice none 0 0)).toArray 86) = w1 at hm1 hb1 s1 c1 ⊢
  refine ⟨by simp only [List.length_cons]; omega, ?_⟩
  simp (config := {maxSteps := 1000000}) only [↓zvD, zvU, ↓up_apply, ↓hv_apply, ↓upO_some, ↓upO_none, ↓ev_tmp, ↓ev_const, ↓ev_func, ↓ev_global, init, Nat.reduceEqDiff, Nat.reduceAdd, Nat.reduceMul, Nat.reduceSub, ↓reduceIte, Int.reduceEq, Int.reduceNe, Nat.reduceLeDiff, one, Value.cells, Int.reduceLE, Int.reduceLT, Int.reduceToNat, add_mk, reduceCtorEq, List.mem_range'_1, true_and, and_true, and_false, false_and, Nat.reduceLT, Nat.reduceLeDiff, tyF, c1, rop_build x.toNat w1, zerROp]
  have hm2 := more_alloc w1 (.cells ((opZ 0).cells (.slice none 0 0)).toArray 86)
  have hb2 := Blk.new w1 86 ((opZ 0).cells (.slice none 0 0)).toArray
  have s2 := size_alloc w1 (.cells ((opZ 0).cells (.slice none 0 0)).toArray 86)
  generalize w1.alloc (.cells ((opZ 0).cells (.slice none 0 0)).toArray 86) = w2 at hm2 hb2 s2 ⊢
  rw [List.toList_toArray] at hb1 hb2
  have hz2 := hb1.more hm2
  replace hm2 := hm1.trans hm2
  refine st_all hb2 (by simp [SOp.len (opZ_fit _)]) (SOp.len (opZ_fit 0) _) (fun u hu => SOp.one (opZ x.toNat) (sl := .slice none 0 0) rfl u hu) fun w3 j1 j2 => ?_
  rw [List.toList_toArray] at j2
  have hz3 := j1.blk hz2 (by omega)
  have s3 := j1.size
  have hm3 : More w w3 := j1.below hm2 (by omega)
  have g1 : (1 : Nat) ≤ (x :: rest).length := by simp
  simp (config := {maxSteps := 1000000}) only [↓zvD, zvU, ↓up_apply, ↓hv_apply, ↓upO_some, ↓upO_none, ↓ev_tmp, ↓ev_const, ↓ev_func, ↓ev_global, init, Nat.reduceEqDiff, Nat.reduceAdd, Nat.reduceMul, Nat.reduceSub, ↓reduceIte, Int.reduceEq, Int.reduceNe, Nat.reduceLeDiff, one, Value.cells, Int.reduceLE, Int.reduceLT, Int.reduceToNat, add_mk, reduceCtorEq, List.mem_range'_1, true_and, and_true, and_false, false_and, Nat.reduceLT, Nat.reduceLeDiff, tyF, rin_build _ _ _ w3, zer51, g1]
  have hm4 := more_alloc w3 (.cells #[.slice none 0 0, .bool false] 51)
  have hb4 := Blk.new w3 51 #[.slice none 0 0, .bool false]
  have s4 := size_alloc w3 (.cells #[.slice none 0 0, .bool false] 51)
  generalize w3.alloc (.cells #[.slice none 0 0, .bool false] 51) = w4 at hm4 hb4 s4 ⊢
  refine st_all hb4 rfl rfl (by intro u hu; simp at hu; rcases hu with rfl | rfl <;> rfl) fun w5 k1 k2 => ?_
  rw [List.toList_toArray] at k2
  have hz5 := k1.blk (hz3.more hm4) (by omega)
  have hp5 := k1.blk (j2.more hm4) (by omega)
  have s5 := k1.size
  have hm5 : More w w5 := k1.below (hm3.trans hm4) (by omega)
  have hRI5 : RIs w0 ⟨rest, false⟩ (RV.adv (some a) c 1 1) (c - 1) := by
    refine ⟨?_, by rw [nrm_ok rfl]; simp at hc; show rest.length ≤ _; omega⟩
    rw [nrm_ok rfl]
    exact Cs.advB (k := 1) hA hc
  have hR5 : Blk w5 w3.heap.size 51 [.slice (RV.adv (some a) c 1 1) (nrm ⟨rest, false⟩).length (c - 1), .bool (InM.mk rest false).bad] := k2
  have hsl : (InM.mk rest false).rest.length = rest.length := rfl
  have hkx : (x.toNat : Int) = x.toNat := rfl
  generalize hAr : RV.adv (some a) c 1 1 = Ar at hRI5 hR5
  generalize hcr : c - 1 = cr at hRI5 hR5
  generalize hss : InM.mk rest false = s at hRI5 hR5 hsl ⊢
  generalize hzz : w.heap.size = z at *
  generalize hpp : w1.heap.size = p at *
  generalize hrr : w3.heap.size = r at *
  have hrest := takeM_rest x.toNat s
  have kc := hp5.cell 0
  have kc : w5.cell? ⟨p, 0, none⟩ = some (.int .u8 x.toNat) := by rw [hp5.cell]; rfl
  generalize hk : (x.toNat : Int) = k at *
  unfold takeM at hrest ⊢
  have hv5 := hR5.all_eq 2 rfl
  subst hkk
  rw [if_neg (show ¬ ((2 : Int) = 1) by decide), if_pos rfl] at hrest ⊢
  simp (config := {maxSteps := 1000000}) only [↓zvD, zvU, ↓up_apply, ↓hv_apply, ↓upO_some, ↓upO_none, ↓ev_tmp, ↓ev_const, ↓ev_func, ↓ev_global, init, Nat.reduceEqDiff, Nat.reduceAdd, Nat.reduceMul, Nat.reduceSub, ↓reduceIte, Int.reduceEq, Int.reduceNe, Nat.reduceLeDiff, one, Value.cells, Int.reduceLE, Int.reduceLT, Int.reduceToNat, add_mk, reduceCtorEq, List.mem_range'_1, true_and, and_true, and_false, false_and, Nat.reduceLT, Nat.reduceLeDiff, tyF, kc, hv5]
  refine call_ok Try.call30 (refI_take w0 _ s _ _ 8 hRI5 (hw0.trans hm5) (by omega)) ?_
  rintro _ w6 ⟨A6, c6, rfl, hRI6, hm6⟩
  simp (config := {maxSteps := 1000000}) only [↓zvD, zvU, ↓up_apply, ↓hv_apply, ↓upO_some, ↓upO_none, ↓ev_tmp, ↓ev_const, ↓ev_func, ↓ev_global, init, Nat.reduceEqDiff, Nat.reduceAdd, Nat.reduceMul, Nat.reduceSub, ↓reduceIte, Int.reduceEq, Int.reduceNe, Nat.reduceLeDiff, one, Value.cells, Int.reduceLE, Int.reduceLT, Int.reduceToNat, add_mk, reduceCtorEq, List.mem_range'_1, true_and, and_true, and_false, false_and, Nat.reduceLT, Nat.reduceLeDiff, tyF]
  refine st_cell (hp5.more hm6) (by rw [SOp.len (opZ_fit 2)]; omega) rfl fun w7 i1 i2 => ?_
  have hp7 : Blk w7 p 86 ((opD 2 (be (s.take 8).1) 0 []).cells (.slice none 0 0)) := i2
  have hz7 := i1.blk (hz5.more hm6) (by omega)
  have hm7 : More w w7 := i1.below (hm5.trans hm6) (by omega)
  try simp (config := {maxSteps := 1000000}) only [↓zvD, zvU, ↓up_apply, ↓hv_apply, ↓upO_some, ↓upO_none, ↓ev_tmp, ↓ev_const, ↓ev_func, ↓ev_global, init, Nat.reduceEqDiff, Nat.reduceAdd, Nat.reduceMul, Nat.reduceSub, ↓reduceIte, Int.reduceEq, Int.reduceNe, Nat.reduceLeDiff, one, Value.cells, Int.reduceLE, Int.reduceLT, Int.reduceToNat, add_mk, reduceCtorEq, List.mem_range'_1, true_and, and_true, and_false, false_and, Nat.reduceLT, Nat.reduceLeDiff, tyF]
  refine st_all (i1.blk (hR5.more hm6) (by omega)) rfl rfl (rin_one A6 (nrm (s.take 8).2).length c6 ((s.take 8).2).bad) fun w8 i3 hR8 => ?_
  rw [List.toList_toArray] at hR8
  have hp8 := i3.blk hp7 (by omega)
  have hz8 := i3.blk hz7 (by omega)
  have hm8 : More w w8 := i3.below hm7 (by omega)
  have hv8 := hR8.all_eq 2 rfl
  try simp (config := {maxSteps := 1000000}) only [↓zvD, zvU, ↓up_apply, ↓hv_apply, ↓upO_some, ↓upO_none, ↓ev_tmp, ↓ev_const, ↓ev_func, ↓ev_global, init, Nat.reduceEqDiff, Nat.reduceAdd, Nat.reduceMul, Nat.reduceSub, ↓reduceIte, Int.reduceEq, Int.reduceNe, Nat.reduceLeDiff, one, Value.cells, Int.reduceLE, Int.reduceLT, Int.reduceToNat, add_mk, reduceCtorEq, List.mem_range'_1, true_and, and_true, and_false, false_and, Nat.reduceLT, Nat.reduceLeDiff, tyF]
  try simp only [hv8]
  try simp (config := {maxSteps := 1000000}) only [↓zvD, zvU, ↓up_apply, ↓hv_apply, ↓upO_some, ↓upO_none, ↓ev_tmp, ↓ev_const, ↓ev_func, ↓ev_global, init, Nat.reduceEqDiff, Nat.reduceAdd, Nat.reduceMul, Nat.reduceSub, ↓reduceIte, Int.reduceEq, Int.reduceNe, Nat.reduceLeDiff, one, Value.cells, Int.reduceLE, Int.reduceLT, Int.reduceToNat, add_mk, reduceCtorEq, List.mem_range'_1, true_and, and_true, and_false, false_and, Nat.reduceLT, Nat.reduceLeDiff, tyF]
  refine call_ok Try.call30 (refI_take w0 _ (s.take 8).2 _ _ 8 hRI6 (hw0.trans hm8) (by omega)) ?_
  rintro _ w9 ⟨A9, c9, rfl, hRI9, hm9⟩
  simp (config := {maxSteps := 1000000}) only [↓zvD, zvU, ↓up_apply, ↓hv_apply, ↓upO_some, ↓upO_none, ↓ev_tmp, ↓ev_const, ↓ev_func, ↓ev_global, init, Nat.reduceEqDiff, Nat.reduceAdd, Nat.reduceMul, Nat.reduceSub, ↓reduceIte, Int.reduceEq, Int.reduceNe, Nat.reduceLeDiff, one, Value.cells, Int.reduceLE, Int.reduceLT, Int.reduceToNat, add_mk, reduceCtorEq, List.mem_range'_1, true_and, and_true, and_false, false_and, Nat.reduceLT, Nat.reduceLeDiff, tyF]
  refine st_cell (hp8.more hm9) (by rw [SOp.len (o := opD 2 (be (s.take 8).1) 0 []) ⟨rfl, rfl, rfl⟩]; omega) rfl fun w10 i4 i5 => ?_
  have hp10 : Blk w10 p 86 ((opD 2 (be (s.take 8).1) (be ((s.take 8).2.take 8).1) []).cells (.slice none 0 0)) := i5
  have hz10 := i4.blk (hz8.more hm9) (by omega)
  have hm10 : More w w10 := i4.below (hm8.trans hm9) (by omega)
  try simp (config := {maxSteps := 1000000}) only [↓zvD, zvU, ↓up_apply, ↓hv_apply, ↓upO_some, ↓upO_none, ↓ev_tmp, ↓ev_const, ↓ev_func, ↓ev_global, init, Nat.reduceEqDiff, Nat.reduceAdd, Nat.reduceMul, Nat.reduceSub, ↓reduceIte, Int.reduceEq, Int.reduceNe, Nat.reduceLeDiff, one, Value.cells, Int.reduceLE, Int.reduceLT, Int.reduceToNat, add_mk, reduceCtorEq, List.mem_range'_1, true_and, and_true, and_false, false_and, Nat.reduceLT, Nat.reduceLeDiff, tyF]
  refine st_all (i4.blk (hR8.more hm9) (by omega)) rfl rfl (rin_one A9 (nrm ((s.take 8).2.take 8).2).length c9 (((s.take 8).2.take 8).2).bad) fun w11 i6 hR11 => ?_
  rw [List.toList_toArray] at hR11
  have hp11 := i6.blk hp10 (by omega)
  have hz11 := i6.blk hz10 (by omega)
  have hm11 : More w w11 := i6.below hm10 (by omega)
  have hv11 := hR11.all_eq 2 rfl
  try simp (config := {maxSteps := 1000000}) only [↓zvD, zvU, ↓up_apply, ↓hv_apply, ↓upO_some, ↓upO_none, ↓ev_tmp, ↓ev_const, ↓ev_func, ↓ev_global, init, Nat.reduceEqDiff, Nat.reduceAdd, Nat.reduceMul, Nat.reduceSub, ↓reduceIte, Int.reduceEq, Int.reduceNe, Nat.reduceLeDiff, one, Value.cells, Int.reduceLE, Int.reduceLT, Int.reduceToNat, add_mk, reduceCtorEq, List.mem_range'_1, true_and, and_true, and_false, false_and, Nat.reduceLT, Nat.reduceLeDiff, tyF]
  try simp only [hv11]
  try simp (config := {maxSteps := 1000000}) only [↓zvD, zvU, ↓up_apply, ↓hv_apply, ↓upO_some, ↓upO_none, ↓ev_tmp, ↓ev_const, ↓ev_func, ↓ev_global, init, Nat.reduceEqDiff, Nat.reduceAdd, Nat.reduceMul, Nat.reduceSub, ↓reduceIte, Int.reduceEq, Int.reduceNe, Nat.reduceLeDiff, one, Value.cells, Int.reduceLE, Int.reduceLT, Int.reduceToNat, add_mk, reduceCtorEq, List.mem_range'_1, true_and, and_true, and_false, false_and, Nat.reduceLT, Nat.reduceLeDiff, tyF]
  refine call_ok Try.call30 (refI_take w0 _ ((s.take 8).2.take 8).2 _ _ 2 hRI9 (hw0.trans hm11) (by omega)) ?_
  rintro _ w12 ⟨A12, c12, rfl, hRI12, hm12⟩
  simp (config := {maxSteps := 1000000}) only [↓zvD, zvU, ↓up_apply, ↓hv_apply, ↓upO_some, ↓upO_none, ↓ev_tmp, ↓ev_const, ↓ev_func, ↓ev_global, init, Nat.reduceEqDiff, Nat.reduceAdd, Nat.reduceMul, Nat.reduceSub, ↓reduceIte, Int.reduceEq, Int.reduceNe, Nat.reduceLeDiff, one, Value.cells, Int.reduceLE, Int.reduceLT, Int.reduceToNat, add_mk, reduceCtorEq, List.mem_range'_1, true_and, and_true, and_false, false_and, Nat.reduceLT, Nat.reduceLeDiff, tyF]
  refine st_all (hR11.more hm12) rfl rfl (rin_one A12 (nrm (((s.take 8).2.take 8).2.take 2).2).length c12 ((((s.take 8).2.take 8).2.take 2).2).bad) fun w13 i7 hR13 => ?_
  rw [List.toList_toArray] at hR13
  have hp13 := i7.blk (hp11.more hm12) (by omega)
  have hz13 := i7.blk (hz11.more hm12) (by omega)
  have hm13 : More w w13 := i7.below (hm11.trans hm12) (by omega)
  have hv13 := hR13.all_eq 2 rfl
  have r7 := be_range ((((s.take 8).2.take 8).2.take 2).1)
  have r8 : be ((((s.take 8).2.take 8).2.take 2).1) < (256 ^ 2 : Nat) := be_lt ((((s.take 8).2.take 8).2).take_len 2)
  have e6 : IntKind.i64.wrap (be ((((s.take 8).2.take 8).2.take 2).1)) = be ((((s.take 8).2.take 8).2.take 2).1) := w64 (by omega) (by omega)
  try simp (config := {maxSteps := 1000000}) only [↓zvD, zvU, ↓up_apply, ↓hv_apply, ↓upO_some, ↓upO_none, ↓ev_tmp, ↓ev_const, ↓ev_func, ↓ev_global, init, Nat.reduceEqDiff, Nat.reduceAdd, Nat.reduceMul, Nat.reduceSub, ↓reduceIte, Int.reduceEq, Int.reduceNe, Nat.reduceLeDiff, one, Value.cells, Int.reduceLE, Int.reduceLT, Int.reduceToNat, add_mk, reduceCtorEq, List.mem_range'_1, true_and, and_true, and_false, false_and, Nat.reduceLT, Nat.reduceLeDiff, tyF]
  try simp only [hv13]
  try simp (config := {maxSteps := 1000000}) only [↓zvD, zvU, ↓up_apply, ↓hv_apply, ↓upO_some, ↓upO_none, ↓ev_tmp, ↓ev_const, ↓ev_func, ↓ev_global, init, Nat.reduceEqDiff, Nat.reduceAdd, Nat.reduceMul, Nat.reduceSub, ↓reduceIte, Int.reduceEq, Int.reduceNe, Nat.reduceLeDiff, one, Value.cells, Int.reduceLE, Int.reduceLT, Int.reduceToNat, add_mk, reduceCtorEq, List.mem_range'_1, true_and, and_true, and_false, false_and, Nat.reduceLT, Nat.reduceLeDiff, tyF, e6]
  refine call_ok Try.call34 (refI_raw w0 _ (((s.take 8).2.take 8).2.take 2).2 _ _ _ hRI12 (hw0.trans hm13)) ?_
  rintro _ w14 ⟨A14, c14, A15, c15, rfl, hB14, hle14, hRI15, hm14⟩
  simp (config := {maxSteps := 1000000}) only [↓zvD, zvU, ↓up_apply, ↓hv_apply, ↓upO_some, ↓upO_none, ↓ev_tmp, ↓ev_const, ↓ev_func, ↓ev_global, init, Nat.reduceEqDiff, Nat.reduceAdd, Nat.reduceMul, Nat.reduceSub, ↓reduceIte, Int.reduceEq, Int.reduceNe, Nat.reduceLeDiff, one, Value.cells, Int.reduceLE, Int.reduceLT, Int.reduceToNat, add_mk, reduceCtorEq, List.mem_range'_1, true_and, and_true, and_false, false_and, Nat.reduceLT, Nat.reduceLeDiff, tyF]
  refine st_cell (hp13.more hm14) (by rw [SOp.len (o := opD 2 (be (s.take 8).1) (be ((s.take 8).2.take 8).1) []) ⟨rfl, rfl, rfl⟩]; omega) rfl fun w16 i8 i9 => ?_
  have hp16 : Blk w16 p 86 ((opD 2 (be (s.take 8).1) (be ((s.take 8).2.take 8).1) ((((s.take 8).2.take 8).2.take 2).2.take (be (((s.take 8).2.take 8).2.take 2).1)).1).cells (.slice A14 ((((s.take 8).2.take 8).2.take 2).2.take (be (((s.take 8).2.take 8).2.take 2).1)).1.length c14)) := i9
  have hz16 := i8.blk (hz13.more hm14) (by omega)
  have hm16 : More w w16 := i8.below (hm13.trans hm14) (by omega)
  try simp (config := {maxSteps := 1000000}) only [↓zvD, zvU, ↓up_apply, ↓hv_apply, ↓upO_some, ↓upO_none, ↓ev_tmp, ↓ev_const, ↓ev_func, ↓ev_global, init, Nat.reduceEqDiff, Nat.reduceAdd, Nat.reduceMul, Nat.reduceSub, ↓reduceIte, Int.reduceEq, Int.reduceNe, Nat.reduceLeDiff, one, Value.cells, Int.reduceLE, Int.reduceLT, Int.reduceToNat, add_mk, reduceCtorEq, List.mem_range'_1, true_and, and_true, and_false, false_and, Nat.reduceLT, Nat.reduceLeDiff, tyF]
  refine st_all (i8.blk (hR13.more hm14) (by omega)) rfl rfl (rin_one A15 (nrm ((((s.take 8).2.take 8).2.take 2).2.take (be (((s.take 8).2.take 8).2.take 2).1)).2).length c15 (((((s.take 8).2.take 8).2.take 2).2.take (be (((s.take 8).2.take 8).2.take 2).1)).2).bad) fun w17 i10 hR17 => ?_
  rw [List.toList_toArray] at hR17
  have fz := (i10.blk hz16 (by omega))
  have fp := (i10.blk hp16 (by omega))
  have fR := hR17
  have fm := (i10.below hm16 (by omega))
  have fA : Bs w0 (A14 : Option Addr) (opD 2 (be (s.take 8).1) (be ((s.take 8).2.take 8).1) ((((s.take 8).2.take 8).2.take 2).2.take (be (((s.take 8).2.take 8).2.take 2).1)).1).b := hB14
  cases hbd : (((((s.take 8).2.take 8).2.take 2).2.take (be (((s.take 8).2.take 8).2.take 2).1)).2).bad with
  | true =>
    have cb := fR.cell 1
    simp only [hbd, List.getElem?_cons_succ, List.getElem?_cons_zero] at cb
    try simp (config := {maxSteps := 1000000}) only [↓zvD, zvU, ↓up_apply, ↓hv_apply, ↓upO_some, ↓upO_none, ↓ev_tmp, ↓ev_const, ↓ev_func, ↓ev_global, init, Nat.reduceEqDiff, Nat.reduceAdd, Nat.reduceMul, Nat.reduceSub, ↓reduceIte, Int.reduceEq, Int.reduceNe, Nat.reduceLeDiff, one, Value.cells, Int.reduceLE, Int.reduceLT, Int.reduceToNat, add_mk, reduceCtorEq, List.mem_range'_1, true_and, and_true, and_false, false_and, Nat.reduceLT, Nat.reduceLeDiff, tyF]
    simp only [cb]
    simp (config := {maxSteps := 1000000}) only [↓zvD, zvU, ↓up_apply, ↓hv_apply, ↓upO_some, ↓upO_none, ↓ev_tmp, ↓ev_const, ↓ev_func, ↓ev_global, init, Nat.reduceEqDiff, Nat.reduceAdd, Nat.reduceMul, Nat.reduceSub, ↓reduceIte, Int.reduceEq, Int.reduceNe, Nat.reduceLeDiff, one, Value.cells, Int.reduceLE, Int.reduceLT, Int.reduceToNat, add_mk, reduceCtorEq, List.mem_range'_1, true_and, and_true, and_false, false_and, Nat.reduceLT, Nat.reduceLeDiff, tyF]
    rw [rop_build0 w]
    try simp (config := {maxSteps := 1000000}) only [↓zvD, zvU, ↓up_apply, ↓hv_apply, ↓upO_some, ↓upO_none, ↓ev_tmp, ↓ev_const, ↓ev_func, ↓ev_global, init, Nat.reduceEqDiff, Nat.reduceAdd, Nat.reduceMul, Nat.reduceSub, ↓reduceIte, Int.reduceEq, Int.reduceNe, Nat.reduceLeDiff, one, Value.cells, Int.reduceLE, Int.reduceLT, Int.reduceToNat, add_mk, reduceCtorEq, List.mem_range'_1, true_and, and_true, and_false, false_and, Nat.reduceLT, Nat.reduceLeDiff, tyF]
    rw [st_same_eq fz (SOp.len (opZ_fit 0) _) (SOp.one (opZ 0) (sl := .slice none 0 0) rfl)]
    have fzv := fz.all_eq 49 (SOp.len (opZ_fit 0) _)
    try simp (config := {maxSteps := 1000000}) only [↓zvD, zvU, ↓up_apply, ↓hv_apply, ↓upO_some, ↓upO_none, ↓ev_tmp, ↓ev_const, ↓ev_func, ↓ev_global, init, Nat.reduceEqDiff, Nat.reduceAdd, Nat.reduceMul, Nat.reduceSub, ↓reduceIte, Int.reduceEq, Int.reduceNe, Nat.reduceLeDiff, one, Value.cells, Int.reduceLE, Int.reduceLT, Int.reduceToNat, add_mk, reduceCtorEq, List.mem_range'_1, true_and, and_true, and_false, false_and, Nat.reduceLT, Nat.reduceLeDiff, tyF]
    try simp only [fzv]
    try simp (config := {maxSteps := 1000000}) only [↓zvD, zvU, ↓up_apply, ↓hv_apply, ↓upO_some, ↓upO_none, ↓ev_tmp, ↓ev_const, ↓ev_func, ↓ev_global, init, Nat.reduceEqDiff, Nat.reduceAdd, Nat.reduceMul, Nat.reduceSub, ↓reduceIte, Int.reduceEq, Int.reduceNe, Nat.reduceLeDiff, one, Value.cells, Int.reduceLE, Int.reduceLT, Int.reduceToNat, add_mk, reduceCtorEq, List.mem_range'_1, true_and, and_true, and_false, false_and, Nat.reduceLT, Nat.reduceLeDiff, tyF]
    exact ⟨fun _ => rfl, fun h => absurd (hbd.symm.trans h) (by simp), fm⟩
  | false =>
    have cb := fR.cell 1
    simp only [hbd, List.getElem?_cons_succ, List.getElem?_cons_zero] at cb
    have ca := fR.cell 0
    simp only [List.getElem?_cons_zero] at ca
    have fps := fm.size
    try simp (config := {maxSteps := 1000000}) only [↓zvD, zvU, ↓up_apply, ↓hv_apply, ↓upO_some, ↓upO_none, ↓ev_tmp, ↓ev_const, ↓ev_func, ↓ev_global, init, Nat.reduceEqDiff, Nat.reduceAdd, Nat.reduceMul, Nat.reduceSub, ↓reduceIte, Int.reduceEq, Int.reduceNe, Nat.reduceLeDiff, one, Value.cells, Int.reduceLE, Int.reduceLT, Int.reduceToNat, add_mk, reduceCtorEq, List.mem_range'_1, true_and, and_true, and_false, false_and, Nat.reduceLT, Nat.reduceLeDiff, tyF]
    simp only [cb]
    try simp (config := {maxSteps := 1000000}) only [↓zvD, zvU, ↓up_apply, ↓hv_apply, ↓upO_some, ↓upO_none, ↓ev_tmp, ↓ev_const, ↓ev_func, ↓ev_global, init, Nat.reduceEqDiff, Nat.reduceAdd, Nat.reduceMul, Nat.reduceSub, ↓reduceIte, Int.reduceEq, Int.reduceNe, Nat.reduceLeDiff, one, Value.cells, Int.reduceLE, Int.reduceLT, Int.reduceToNat, add_mk, reduceCtorEq, List.mem_range'_1, true_and, and_true, and_false, false_and, Nat.reduceLT, Nat.reduceLeDiff, tyF]
    refine draw_name fun K hK => ?_
    refine draw_finB z (by omega) 86 ((opD 2 (be (s.take 8).1) (be ((s.take 8).2.take 8).1) ((((s.take 8).2.take 8).2.take 2).2.take (be (((s.take 8).2.take 8).2.take 2).1)).1).cells (.slice A14 (opD 2 (be (s.take 8).1) (be ((s.take 8).2.take 8).1) ((((s.take 8).2.take 8).2.take 2).2.take (be (((s.take 8).2.take 8).2.take 2).1)).1).b.length c14)) 8 [[], [], [1], [], [3], [3, 4], [1, 2, 3, 4, 5], [0], [0, 1, 2, 3, 4, 5, 6, 7]] [(0, RV.IsV (.agg ((opD 2 (be (s.take 8).1) (be ((s.take 8).2.take 8).1) ((((s.take 8).2.take 8).2.take 2).2.take (be (((s.take 8).2.take 8).2.take 2).1)).1).cells (.slice A14 (opD 2 (be (s.take 8).1) (be ((s.take 8).2.take 8).1) ((((s.take 8).2.take 8).2.take 2).2.take (be (((s.take 8).2.take 8).2.take 2).1)).1).b.length c14)).toArray)), (4, RV.IsV (.slice A15 (nrm ((((s.take 8).2.take 8).2.take 2).2.take (be (((s.take 8).2.take 8).2.take 2).1)).2).length c15)), (7, fun _ w' => Blk w' z 86 ((opD 2 (be (s.take 8).1) (be ((s.take 8).2.take 8).1) ((((s.take 8).2.take 8).2.take 2).2.take (be (((s.take 8).2.take 8).2.take 2).1)).1).cells (.slice A14 (opD 2 (be (s.take 8).1) (be ((s.take 8).2.take 8).1) ((((s.take 8).2.take 8).2.take 2).2.take (be (((s.take 8).2.take 8).2.take 2).1)).1).b.length c14)))] mixed (by kernel_rfl) (by kernel_rfl) ?_ ?_
    · intro y hy v' a' b' hab hya
      simp only [List.mem_cons, List.not_mem_nil, or_false] at hy
      rcases hy with rfl | rfl | rfl
      · exact hya
      · exact hya
      · exact hab.done hya
    try simp (config := {maxSteps := 1000000}) only [↓zvD, zvU, ↓zqD, ↓up_apply, ↓hv_apply, ↓upO_some, ↓upO_none, ↓ev_tmp, ↓ev_const, ↓ev_func, ↓ev_global, init, Nat.reduceEqDiff, Nat.reduceAdd, Nat.reduceMul, Nat.reduceSub, ↓reduceIte, Int.reduceEq, Int.reduceNe, Nat.reduceLeDiff, one, Value.cells, Int.reduceLE, Int.reduceLT, Int.reduceToNat, add_mk, reduceCtorEq, List.mem_range'_1, true_and, and_true, and_false, false_and, Nat.reduceLT, Nat.reduceLeDiff, tyF]
    refine ⟨fun w1' hf => ?_, ?_⟩
    · have q1 := (hf.done fp).all_eq 49 (SOp.len (⟨rfl, rfl, rfl⟩ : SOp.Fit (opD 2 (be (s.take 8).1) (be ((s.take 8).2.take 8).1) ((((s.take 8).2.take 8).2.take 2).2.take (be (((s.take 8).2.take 8).2.take 2).1)).1)) _)
      simp only [q1]
      try simp (config := {maxSteps := 1000000}) only [↓zvD, zvU, ↓zqD, ↓up_apply, ↓hv_apply, ↓upO_some, ↓upO_none, ↓ev_tmp, ↓ev_const, ↓ev_func, ↓ev_global, init, Nat.reduceEqDiff, Nat.reduceAdd, Nat.reduceMul, Nat.reduceSub, ↓reduceIte, Int.reduceEq, Int.reduceNe, Nat.reduceLeDiff, one, Value.cells, Int.reduceLE, Int.reduceLT, Int.reduceToNat, add_mk, reduceCtorEq, List.mem_range'_1, true_and, and_true, and_false, false_and, Nat.reduceLT, Nat.reduceLeDiff, tyF]
      exact ⟨Fin.refl _ _ _ _, rfl⟩
    rintro _ ⟨w1', hf1, rfl⟩
    try simp (config := {maxSteps := 1000000}) only [↓zvD, zvU, ↓zqD, ↓up_apply, ↓hv_apply, ↓upO_some, ↓upO_none, ↓ev_tmp, ↓ev_const, ↓ev_func, ↓ev_global, init, Nat.reduceEqDiff, Nat.reduceAdd, Nat.reduceMul, Nat.reduceSub, ↓reduceIte, Int.reduceEq, Int.reduceNe, Nat.reduceLeDiff, one, Value.cells, Int.reduceLE, Int.reduceLT, Int.reduceToNat, add_mk, reduceCtorEq, List.mem_range'_1, true_and, and_true, and_false, false_and, Nat.reduceLT, Nat.reduceLeDiff, tyF]
    refine ⟨fun w1'' hf => ?_, ?_⟩
    · have q1 := (hf.blk _ _ _ (by decide) fR).cell 0
      simp only [List.getElem?_cons_zero] at q1
      simp only [q1]
      try simp (config := {maxSteps := 1000000}) only [↓zvD, zvU, ↓zqD, ↓up_apply, ↓hv_apply, ↓upO_some, ↓upO_none, ↓ev_tmp, ↓ev_const, ↓ev_func, ↓ev_global, init, Nat.reduceEqDiff, Nat.reduceAdd, Nat.reduceMul, Nat.reduceSub, ↓reduceIte, Int.reduceEq, Int.reduceNe, Nat.reduceLeDiff, one, Value.cells, Int.reduceLE, Int.reduceLT, Int.reduceToNat, add_mk, reduceCtorEq, List.mem_range'_1, true_and, and_true, and_false, false_and, Nat.reduceLT, Nat.reduceLeDiff, tyF]
      exact ⟨Fin.refl _ _ _ _, rfl⟩
    rintro _ ⟨w2', hf2, _, rfl⟩
    have el : IntKind.i64.wrap (((x :: rest).length : Int) - ((nrm ((((s.take 8).2.take 8).2.take 2).2.take (be (((s.take 8).2.take 8).2.take 2).1)).2).length : Int)) = ((rest.length + 1 : Nat) : Int) - ((((((s.take 8).2.take 8).2.take 2).2.take (be (((s.take 8).2.take 8).2.take 2).1)).2).rest.length : Int) := by
      rw [nrm_ok hbd, List.length_cons]
      have : (((((s.take 8).2.take 8).2.take 2).2.take (be (((s.take 8).2.take 8).2.take 2).1)).2).rest.length ≤ rest.length := by rw [← hsl]; exact hrest
      exact w64 (by omega) (by omega)
    try simp (config := {maxSteps := 1000000}) only [↓zvD, zvU, ↓zqD, ↓up_apply, ↓hv_apply, ↓upO_some, ↓upO_none, ↓ev_tmp, ↓ev_const, ↓ev_func, ↓ev_global, init, Nat.reduceEqDiff, Nat.reduceAdd, Nat.reduceMul, Nat.reduceSub, ↓reduceIte, Int.reduceEq, Int.reduceNe, Nat.reduceLeDiff, one, Value.cells, Int.reduceLE, Int.reduceLT, Int.reduceToNat, add_mk, reduceCtorEq, List.mem_range'_1, true_and, and_true, and_false, false_and, Nat.reduceLT, Nat.reduceLeDiff, tyF, el]
    refine ⟨fun w3' hf _ => ?_, ?_⟩
    · obtain ⟨cs3, g3, g4⟩ := hf.some ⟨_, fz, by rw [SOp.len (opZ_fit 0), SOp.len (⟨rfl, rfl, rfl⟩ : SOp.Fit (opD 2 (be (s.take 8).1) (be ((s.take 8).2.take 8).1) ((((s.take 8).2.take 8).2.take 2).2.take (be (((s.take 8).2.take 8).2.take 2).1)).1))]⟩
      refine st_all g3 (by simp [SOp.len (⟨rfl, rfl, rfl⟩ : SOp.Fit (opD 2 (be (s.take 8).1) (be ((s.take 8).2.take 8).1) ((((s.take 8).2.take 8).2.take 2).2.take (be (((s.take 8).2.take 8).2.take 2).1)).1))]) (by rw [g4, SOp.len (⟨rfl, rfl, rfl⟩ : SOp.Fit (opD 2 (be (s.take 8).1) (be ((s.take 8).2.take 8).1) ((((s.take 8).2.take 8).2.take 2).2.take (be (((s.take 8).2.take 8).2.take 2).1)).1))]) (fun u hu => SOp.one (opD 2 (be (s.take 8).1) (be ((s.take 8).2.take 8).1) ((((s.take 8).2.take 8).2.take 2).2.take (be (((s.take 8).2.take 8).2.take 2).1)).1) (sl := .slice A14 (opD 2 (be (s.take 8).1) (be ((s.take 8).2.take 8).1) ((((s.take 8).2.take 8).2.take 2).2.take (be (((s.take 8).2.take 8).2.take 2).1)).1).b.length c14) rfl u hu) fun w4' k1' k2' => ?_
      rw [List.toList_toArray] at k2'
      exact ⟨Fin.of_wr k1' g3 k2' (Nat.le_refl _), k2'⟩
    rintro _ ⟨w3', hf3, _, fz3⟩
    try simp (config := {maxSteps := 1000000}) only [↓zvD, zvU, ↓zqD, ↓up_apply, ↓hv_apply, ↓upO_some, ↓upO_none, ↓ev_tmp, ↓ev_const, ↓ev_func, ↓ev_global, init, Nat.reduceEqDiff, Nat.reduceAdd, Nat.reduceMul, Nat.reduceSub, ↓reduceIte, Int.reduceEq, Int.reduceNe, Nat.reduceLeDiff, one, Value.cells, Int.reduceLE, Int.reduceLT, Int.reduceToNat, add_mk, reduceCtorEq, List.mem_range'_1, true_and, and_true, and_false, false_and, Nat.reduceLT, Nat.reduceLeDiff, tyF, el]
    intro w4' hf4 hd4
    have fz4 : Blk w4' z 86 ((opD 2 (be (s.take 8).1) (be ((s.take 8).2.take 8).1) ((((s.take 8).2.take 8).2.take 2).2.take (be (((s.take 8).2.take 8).2.take 2).1)).1).cells (.slice A14 (opD 2 (be (s.take 8).1) (be ((s.take 8).2.take 8).1) ((((s.take 8).2.take 8).2.take 2).2.take (be (((s.take 8).2.take 8).2.take 2).1)).1).b.length c14)) := hd4 (7, fun w' => Blk w' z 86 ((opD 2 (be (s.take 8).1) (be ((s.take 8).2.take 8).1) ((((s.take 8).2.take 8).2.take 2).2.take (be (((s.take 8).2.take 8).2.take 2).1)).1).cells (.slice A14 (opD 2 (be (s.take 8).1) (be ((s.take 8).2.take 8).1) ((((s.take 8).2.take 8).2.take 2).2.take (be (((s.take 8).2.take 8).2.take 2).1)).1).b.length c14))) (by simp)
    have fzv := fz4.all_eq 49 (SOp.len (⟨rfl, rfl, rfl⟩ : SOp.Fit (opD 2 (be (s.take 8).1) (be ((s.take 8).2.take 8).1) ((((s.take 8).2.take 8).2.take 2).2.take (be (((s.take 8).2.take 8).2.take 2).1)).1)) _)
    try rw [stop1]
    try simp (config := {maxSteps := 1000000}) only [↓zvD, zvU, ↓up_apply, ↓hv_apply, ↓upO_some, ↓upO_none, ↓ev_tmp, ↓ev_const, ↓ev_func, ↓ev_global, init, Nat.reduceEqDiff, Nat.reduceAdd, Nat.reduceMul, Nat.reduceSub, ↓reduceIte, Int.reduceEq, Int.reduceNe, Nat.reduceLeDiff, one, Value.cells, Int.reduceLE, Int.reduceLT, Int.reduceToNat, add_mk, reduceCtorEq, List.mem_range'_1, true_and, and_true, and_false, false_and, Nat.reduceLT, Nat.reduceLeDiff, tyF, el]
    refine hK _ _ ?_
    clear hK K
    try simp (config := {maxSteps := 1000000}) only [↓zvD, zvU, ↓up_apply, ↓hv_apply, ↓upO_some, ↓upO_none, ↓ev_tmp, ↓ev_const, ↓ev_func, ↓ev_global, init, Nat.reduceEqDiff, Nat.reduceAdd, Nat.reduceMul, Nat.reduceSub, ↓reduceIte, Int.reduceEq, Int.reduceNe, Nat.reduceLeDiff, one, Value.cells, Int.reduceLE, Int.reduceLT, Int.reduceToNat, add_mk, reduceCtorEq, List.mem_range'_1, true_and, and_true, and_false, false_and, Nat.reduceLT, Nat.reduceLeDiff, tyF, p_nil]
    try simp only [fzv]
    try simp (config := {maxSteps := 1000000}) only [↓zvD, zvU, ↓up_apply, ↓hv_apply, ↓upO_some, ↓upO_none, ↓ev_tmp, ↓ev_const, ↓ev_func, ↓ev_global, init, Nat.reduceEqDiff, Nat.reduceAdd, Nat.reduceMul, Nat.reduceSub, ↓reduceIte, Int.reduceEq, Int.reduceNe, Nat.reduceLeDiff, one, Value.cells, Int.reduceLE, Int.reduceLT, Int.reduceToNat, add_mk, reduceCtorEq, List.mem_range'_1, true_and, and_true, and_false, false_and, Nat.reduceLT, Nat.reduceLeDiff, tyF]
    have hmw : More w w4' := Below.trans fm (by rw [hzz]; exact hf4.below)
    exact ⟨fun h => absurd (hbd.symm.trans h) (by simp), fun _ => ⟨A14, c14, rfl, fA, hle14⟩, hmw⟩
theorem one_4 (w0 w : World) (hw0 : More w0 w) (A : Option Addr) (x : UInt8) (rest : List UInt8) (c : Nat) (hA : Bs w0 A (x :: rest)) (hc : (x :: rest).length ≤ c) (hl : rest.length ≤ 1000000) (hkk : (x.toNat : Int) = 4) :
    Ret Try.prog 86 #[.slice A (x :: rest).length c] w (OneR w0 w (rest.length + 1) (takeM x.toNat ⟨rest, false⟩)) := by
  refine ret_of Try.func86 rfl (by kernel_rfl) (Nat.le_of_ble_eq_true (by kernel_rfl)) ?_
  obtain ⟨a, rfl⟩ := hA.isAt (by simp)
  have hx0 : ∀ w', More w w' → w'.cell? (a.add 0) = some (.int .u8 x.toNat) := fun w' h => by
    obtain ⟨b, hb, h0⟩ := (hA.more (hw0.trans h)) 0 (byteV x) rfl
    cases hb
    exact h0
  have hm1 := more_alloc w (.cells ((opZ 0).cells (.slice none 0 0)).toArray 86)
  have hb1 := Blk.new w 86 ((opZ 0).cells (.slice none 0 0)).toArray
  have s1 := size_alloc w (.cells ((opZ 0).cells (.slice none 0 0)).toArray 86)
  have c1 := hx0 _ hm1
  simp (config := {maxSteps := 1000000}) only [↓zvD, zvU, ↓up_apply, ↓hv_apply, ↓upO_some, ↓upO_none, ↓ev_tmp, ↓ev_const, ↓ev_func, ↓ev_global, init, Nat.reduceEqDiff, Nat.reduceAdd, Nat.reduceMul, Nat.reduceSub, ↓reduceIte, Int.reduceEq, Int.reduceNe, Nat.reduceLeDiff, one, Value.cells, Int.reduceLE, Int.reduceLT, Int.reduceToNat, add_mk, reduceCtorEq, List.mem_range'_1, true_and, and_true, and_false, false_and, Nat.reduceLT, Nat.reduceLeDiff, tyF, zerROp]
  generalize w.alloc (.cells ((opZ 0).cells (.slice none 0 0)).toArray 86) = w1 at hm1 hb1 s1 c1 ⊢
  refine ⟨by simp only [List.length_cons]; omega, ?_⟩
  simp (config := {maxSteps := 1000000}) only [↓zvD, zvU, ↓up_apply, ↓hv_apply, ↓upO_some, ↓upO_none, ↓ev_tmp, ↓ev_const, ↓ev_func, ↓ev_global, init, Nat.reduceEqDiff, Nat.reduceAdd, Nat.reduceMul, Nat.reduceSub, ↓reduceIte, Int.reduceEq, Int.reduceNe, Nat.reduceLeDiff, one, Value.cells, Int.reduceLE, Int.reduceLT, Int.reduceToNat, add_mk, reduceCtorEq, List.mem_range'_1, true_and, and_true, and_false, false_and, Nat.reduceLT, Nat.reduceLeDiff, tyF, c1, rop_build x.toNat w1, zerROp]
  have hm2 := more_alloc w1 (.cells ((opZ 0).cells (.slice none 0 0)).toArray 86)
  have hb2 := Blk.new w1 86 ((opZ 0).cells (.slice none 0 0)).toArray
  have s2 := size_alloc w1 (.cells ((opZ 0).cells (.slice none 0 0)).toArray 86)
  generalize w1.alloc (.cells ((opZ 0).cells (.slice none 0 0)).toArray 86) = w2 at hm2 hb2 s2 ⊢
  rw [List.toList_toArray] at hb1 hb2
  have hz2 := hb1.more hm2
  replace hm2 := hm1.trans hm2
  refine st_all hb2 (by simp [SOp.len (opZ_fit _)]) (SOp.len (opZ_fit 0) _) (fun u hu => SOp.one (opZ x.toNat) (sl := .slice none 0 0) rfl u hu) fun w3 j1 j2 => ?_
  rw [List.toList_toArray] at j2
  have hz3 := j1.blk hz2 (by omega)
  have s3 := j1.size
  have hm3 : More w w3 := j1.below hm2 (by omega)
  have g1 : (1 : Nat) ≤ (x :: rest).length := by simp
  simp (config := {maxSteps := 1000000}) only [↓zvD, zvU, ↓up_apply, ↓hv_apply, ↓upO_some, ↓upO_none, ↓ev_tmp, ↓ev_const, ↓ev_func, ↓ev_global, init, Nat.reduceEqDiff, Nat.reduceAdd, Nat.reduceMul, Nat.reduceSub, ↓reduceIte, Int.reduceEq, Int.reduceNe, Nat.reduceLeDiff, one, Value.cells, Int.reduceLE, Int.reduceLT, Int.reduceToNat, add_mk, reduceCtorEq, List.mem_range'_1, true_and, and_true, and_false, false_and, Nat.reduceLT, Nat.reduceLeDiff, tyF, rin_build _ _ _ w3, zer51, g1]
  have hm4 := more_alloc w3 (.cells #[.slice none 0 0, .bool false] 51)
  have hb4 := Blk.new w3 51 #[.slice none 0 0, .bool false]
  have s4 := size_alloc w3 (.cells #[.slice none 0 0, .bool false] 51)
  generalize w3.alloc (.cells #[.slice none 0 0, .bool false] 51) = w4 at hm4 hb4 s4 ⊢
  refine st_all hb4 rfl rfl (by intro u hu; simp at hu; rcases hu with rfl | rfl <;> rfl) fun w5 k1 k2 => ?_
  rw [List.toList_toArray] at k2
  have hz5 := k1.blk (hz3.more hm4) (by omega)
  have hp5 := k1.blk (j2.more hm4) (by omega)
  have s5 := k1.size
  have hm5 : More w w5 := k1.below (hm3.trans hm4) (by omega)
  have hRI5 : RIs w0 ⟨rest, false⟩ (RV.adv (some a) c 1 1) (c - 1) := by
    refine ⟨?_, by rw [nrm_ok rfl]; simp at hc; show rest.length ≤ _; omega⟩
    rw [nrm_ok rfl]
    exact Cs.advB (k := 1) hA hc
  have hR5 : Blk w5 w3.heap.size 51 [.slice (RV.adv (some a) c 1 1) (nrm ⟨rest, false⟩).length (c - 1), .bool (InM.mk rest false).bad] := k2
  have hsl : (InM.mk rest false).rest.length = rest.length := rfl
  have hkx : (x.toNat : Int) = x.toNat := rfl
  generalize hAr : RV.adv (some a) c 1 1 = Ar at hRI5 hR5
  generalize hcr : c - 1 = cr at hRI5 hR5
  generalize hss : InM.mk rest false = s at hRI5 hR5 hsl ⊢
  generalize hzz : w.heap.size = z at *
  generalize hpp : w1.heap.size = p at *
  generalize hrr : w3.heap.size = r at *
  have hrest := takeM_rest x.toNat s
  have kc := hp5.cell 0
  have kc : w5.cell? ⟨p, 0, none⟩ = some (.int .u8 x.toNat) := by rw [hp5.cell]; rfl
  generalize hk : (x.toNat : Int) = k at *
  unfold takeM at hrest ⊢
  have hv5 := hR5.all_eq 2 rfl
  subst hkk
  rw [if_neg (show ¬ ((4 : Int) = 1) by decide), if_neg (show ¬ ((4 : Int) = 2) by decide), if_pos rfl] at hrest ⊢
  simp (config := {maxSteps := 1000000}) only [↓zvD, zvU, ↓up_apply, ↓hv_apply, ↓upO_some, ↓upO_none, ↓ev_tmp, ↓ev_const, ↓ev_func, ↓ev_global, init, Nat.reduceEqDiff, Nat.reduceAdd, Nat.reduceMul, Nat.reduceSub, ↓reduceIte, Int.reduceEq, Int.reduceNe, Nat.reduceLeDiff, one, Value.cells, Int.reduceLE, Int.reduceLT, Int.reduceToNat, add_mk, reduceCtorEq, List.mem_range'_1, true_and, and_true, and_false, false_and, Nat.reduceLT, Nat.reduceLeDiff, tyF, kc, hv5]
  refine call_ok Try.call34 (refI_raw w0 _ s _ _ 16 hRI5 (hw0.trans hm5)) ?_
  rintro _ w6 ⟨A6, c6, A7, c7, rfl, hB6, hle6, hRI7, hm6⟩
  have t6 : (s.take 16).1.length ≤ 16 := by simpa using s.take_len 16
  simp (config := {maxSteps := 1000000}) only [↓zvD, zvU, ↓up_apply, ↓hv_apply, ↓upO_some, ↓upO_none, ↓ev_tmp, ↓ev_const, ↓ev_func, ↓ev_global, init, Nat.reduceEqDiff, Nat.reduceAdd, Nat.reduceMul, Nat.reduceSub, ↓reduceIte, Int.reduceEq, Int.reduceNe, Nat.reduceLeDiff, one, Value.cells, Int.reduceLE, Int.reduceLT, Int.reduceToNat, add_mk, reduceCtorEq, List.mem_range'_1, true_and, and_true, and_false, false_and, Nat.reduceLT, Nat.reduceLeDiff, tyF]
  refine st_all (hR5.more hm6) rfl rfl (rin_one A7 (nrm (s.take 16).2).length c7 ((s.take 16).2).bad) fun w7 i1 hR7 => ?_
  rw [List.toList_toArray] at hR7
  have hp7 := i1.blk (hp5.more hm6) (by omega)
  have hz7 := i1.blk (hz5.more hm6) (by omega)
  have hm7 : More w w7 := i1.below (hm5.trans hm6) (by omega)
  have hm7s := hm7.size
  try simp (config := {maxSteps := 1000000}) only [↓zvD, zvU, ↓up_apply, ↓hv_apply, ↓upO_some, ↓upO_none, ↓ev_tmp, ↓ev_const, ↓ev_func, ↓ev_global, init, Nat.reduceEqDiff, Nat.reduceAdd, Nat.reduceMul, Nat.reduceSub, ↓reduceIte, Int.reduceEq, Int.reduceNe, Nat.reduceLeDiff, one, Value.cells, Int.reduceLE, Int.reduceLT, Int.reduceToNat, add_mk, reduceCtorEq, List.mem_range'_1, true_and, and_true, and_false, false_and, Nat.reduceLT, Nat.reduceLeDiff, tyF]
  refine loop_p (8 :: List.range' 75 11) (fun e w' => KeyJ w p z r (s.take 16).1 (s.take 16).2 A7 c7 (e 75) w') (fun e _ => (s.take 16).1.length - (numOf (e 75)).toNat) ?_ ?_
  · exact ⟨0, by simp only [hv_apply, up_apply, upO_some, upO_none, init, List.mem_cons, List.mem_range'_1, true_and, and_true, and_false, false_and, Nat.reduceLT, Nat.reduceLeDiff, Nat.reduceAdd, true_or, or_true, if_true, if_false, ↓reduceIte, Nat.reduceEqDiff, false_or, or_false, List.not_mem_nil, List.getElem?_cons_zero, List.getElem?_cons_succ, Option.getD_some] <;> rfl, by omega, hp7, hz7, hR7, hm7⟩
  rintro v w8 ⟨j, h75, hj, hp8, hz8, hR8, hm8⟩
  simp only [hv_apply, up_apply, upO_some, upO_none, init, List.mem_cons, List.mem_range'_1, true_and, and_true, and_false, false_and, Nat.reduceLT, Nat.reduceLeDiff, Nat.reduceAdd, true_or, or_true, if_true, if_false, ↓reduceIte, Nat.reduceEqDiff, false_or, or_false, List.not_mem_nil, List.getElem?_cons_zero, List.getElem?_cons_succ, Option.getD_some] at h75
  have ek : IntKind.i64.wrap ((j : Int) + 1) = ((j + 1 : Nat) : Int) := w64 (by omega) (by omega)
  simp (config := {maxSteps := 1000000}) only [↓zvD, zvU, ↓up_apply, ↓hv_apply, ↓upO_some, ↓upO_none, ↓ev_tmp, ↓ev_const, ↓ev_func, ↓ev_global, init, Nat.reduceEqDiff, Nat.reduceAdd, Nat.reduceMul, Nat.reduceSub, ↓reduceIte, Int.reduceEq, Int.reduceNe, Nat.reduceLeDiff, one, Value.cells, Int.reduceLE, Int.reduceLT, Int.reduceToNat, add_mk, reduceCtorEq, List.mem_range'_1, true_and, and_true, and_false, false_and, Nat.reduceLT, Nat.reduceLeDiff, tyF, h75]
  refine ⟨fun h9 => ?_, fun h9 => ?_⟩
  · have hj1 : j < (s.take 16).1.length := by omega
    obtain ⟨a6, rfl⟩ := hB6.isAt (by omega)
    have hc := (hB6.more (hw0.trans hm8)).cellN hj1
    have g0 : (0 : Int) ≤ (j : Int) := by omega
    have g16 : (j : Int) < 16 := by omega
    simp (config := {maxSteps := 1000000}) only [↓zvD, zvU, ↓up_apply, ↓hv_apply, ↓upO_some, ↓upO_none, ↓ev_tmp, ↓ev_const, ↓ev_func, ↓ev_global, init, Nat.reduceEqDiff, Nat.reduceAdd, Nat.reduceMul, Nat.reduceSub, ↓reduceIte, Int.reduceEq, Int.reduceNe, Nat.reduceLeDiff, one, Value.cells, Int.reduceLE, Int.reduceLT, Int.reduceToNat, add_mk, reduceCtorEq, List.mem_range'_1, true_and, and_true, and_false, false_and, Nat.reduceLT, Nat.reduceLeDiff, tyF, h75, hc, g0, g16, h9, Int.toNat_natCast]
    refine st_cell hp8 (by rw [SOp.len (o := opK 4 (padTo 16 ((s.take 16).1.take j))) ⟨padTo_len (by simp; omega), rfl, rfl⟩]; omega) rfl fun w9 i2 i3 => ?_
    rw [opK_set 4 _ hj1 t6] at i3
    simp (config := {maxSteps := 1000000}) only [↓zvD, zvU, ↓up_apply, ↓hv_apply, ↓upO_some, ↓upO_none, ↓ev_tmp, ↓ev_const, ↓ev_func, ↓ev_global, init, Nat.reduceEqDiff, Nat.reduceAdd, Nat.reduceMul, Nat.reduceSub, ↓reduceIte, Int.reduceEq, Int.reduceNe, Nat.reduceLeDiff, one, Value.cells, Int.reduceLE, Int.reduceLT, Int.reduceToNat, add_mk, reduceCtorEq, List.mem_range'_1, true_and, and_true, and_false, false_and, Nat.reduceLT, Nat.reduceLeDiff, tyF, h75, ek]
    refine ⟨⟨?_, j + 1, rfl, by omega, i3, i2.blk hz8 (by omega), i2.blk hR8 (by omega), i2.below hm8 (by omega)⟩, by simp only [numOf]; omega⟩
    repeat (first | exact Same.hv _ _ _ | refine Same.up (by simp) ?_)
  obtain rfl : j = (s.take 16).1.length := by omega
  rw [List.take_length] at hp8
  have fz := hz8
  have fp := hp8
  have fR := hR8
  have fm := hm8
  have fA : Bs w0 (none : Option Addr) (opK 4 (padTo 16 (s.take 16).1)).b := (Cs.nil w0 _)
  cases hbd : ((s.take 16).2).bad with
  | true =>
    have cb := fR.cell 1
    simp only [hbd, List.getElem?_cons_succ, List.getElem?_cons_zero] at cb
    try simp (config := {maxSteps := 1000000}) only [↓zvD, zvU, ↓up_apply, ↓hv_apply, ↓upO_some, ↓upO_none, ↓ev_tmp, ↓ev_const, ↓ev_func, ↓ev_global, init, Nat.reduceEqDiff, Nat.reduceAdd, Nat.reduceMul, Nat.reduceSub, ↓reduceIte, Int.reduceEq, Int.reduceNe, Nat.reduceLeDiff, one, Value.cells, Int.reduceLE, Int.reduceLT, Int.reduceToNat, add_mk, reduceCtorEq, List.mem_range'_1, true_and, and_true, and_false, false_and, Nat.reduceLT, Nat.reduceLeDiff, tyF]
    simp only [cb]
    simp (config := {maxSteps := 1000000}) only [↓zvD, zvU, ↓up_apply, ↓hv_apply, ↓upO_some, ↓upO_none, ↓ev_tmp, ↓ev_const, ↓ev_func, ↓ev_global, init, Nat.reduceEqDiff, Nat.reduceAdd, Nat.reduceMul, Nat.reduceSub, ↓reduceIte, Int.reduceEq, Int.reduceNe, Nat.reduceLeDiff, one, Value.cells, Int.reduceLE, Int.reduceLT, Int.reduceToNat, add_mk, reduceCtorEq, List.mem_range'_1, true_and, and_true, and_false, false_and, Nat.reduceLT, Nat.reduceLeDiff, tyF]
    rw [rop_build0 w]
    try simp (config := {maxSteps := 1000000}) only [↓zvD, zvU, ↓up_apply, ↓hv_apply, ↓upO_some, ↓upO_none, ↓ev_tmp, ↓ev_const, ↓ev_func, ↓ev_global, init, Nat.reduceEqDiff, Nat.reduceAdd, Nat.reduceMul, Nat.reduceSub, ↓reduceIte, Int.reduceEq, Int.reduceNe, Nat.reduceLeDiff, one, Value.cells, Int.reduceLE, Int.reduceLT, Int.reduceToNat, add_mk, reduceCtorEq, List.mem_range'_1, true_and, and_true, and_false, false_and, Nat.reduceLT, Nat.reduceLeDiff, tyF]
    rw [st_same_eq fz (SOp.len (opZ_fit 0) _) (SOp.one (opZ 0) (sl := .slice none 0 0) rfl)]
    have fzv := fz.all_eq 49 (SOp.len (opZ_fit 0) _)
    try simp (config := {maxSteps := 1000000}) only [↓zvD, zvU, ↓up_apply, ↓hv_apply, ↓upO_some, ↓upO_none, ↓ev_tmp, ↓ev_const, ↓ev_func, ↓ev_global, init, Nat.reduceEqDiff, Nat.reduceAdd, Nat.reduceMul, Nat.reduceSub, ↓reduceIte, Int.reduceEq, Int.reduceNe, Nat.reduceLeDiff, one, Value.cells, Int.reduceLE, Int.reduceLT, Int.reduceToNat, add_mk, reduceCtorEq, List.mem_range'_1, true_and, and_true, and_false, false_and, Nat.reduceLT, Nat.reduceLeDiff, tyF]
    try simp only [fzv]
    try simp (config := {maxSteps := 1000000}) only [↓zvD, zvU, ↓up_apply, ↓hv_apply, ↓upO_some, ↓upO_none, ↓ev_tmp, ↓ev_const, ↓ev_func, ↓ev_global, init, Nat.reduceEqDiff, Nat.reduceAdd, Nat.reduceMul, Nat.reduceSub, ↓reduceIte, Int.reduceEq, Int.reduceNe, Nat.reduceLeDiff, one, Value.cells, Int.reduceLE, Int.reduceLT, Int.reduceToNat, add_mk, reduceCtorEq, List.mem_range'_1, true_and, and_true, and_false, false_and, Nat.reduceLT, Nat.reduceLeDiff, tyF]
    exact ⟨fun _ => rfl, fun h => absurd (hbd.symm.trans h) (by simp), fm⟩
  | false =>
    have cb := fR.cell 1
    simp only [hbd, List.getElem?_cons_succ, List.getElem?_cons_zero] at cb
    have ca := fR.cell 0
    simp only [List.getElem?_cons_zero] at ca
    have fps := fm.size
    try simp (config := {maxSteps := 1000000}) only [↓zvD, zvU, ↓up_apply, ↓hv_apply, ↓upO_some, ↓upO_none, ↓ev_tmp, ↓ev_const, ↓ev_func, ↓ev_global, init, Nat.reduceEqDiff, Nat.reduceAdd, Nat.reduceMul, Nat.reduceSub, ↓reduceIte, Int.reduceEq, Int.reduceNe, Nat.reduceLeDiff, one, Value.cells, Int.reduceLE, Int.reduceLT, Int.reduceToNat, add_mk, reduceCtorEq, List.mem_range'_1, true_and, and_true, and_false, false_and, Nat.reduceLT, Nat.reduceLeDiff, tyF]
    simp only [cb]
    try simp (config := {maxSteps := 1000000}) only [↓zvD, zvU, ↓up_apply, ↓hv_apply, ↓upO_some, ↓upO_none, ↓ev_tmp, ↓ev_const, ↓ev_func, ↓ev_global, init, Nat.reduceEqDiff, Nat.reduceAdd, Nat.reduceMul, Nat.reduceSub, ↓reduceIte, Int.reduceEq, Int.reduceNe, Nat.reduceLeDiff, one, Value.cells, Int.reduceLE, Int.reduceLT, Int.reduceToNat, add_mk, reduceCtorEq, List.mem_range'_1, true_and, and_true, and_false, false_and, Nat.reduceLT, Nat.reduceLeDiff, tyF]
    refine draw_name fun K hK => ?_
    refine draw_finB z (by omega) 86 ((opK 4 (padTo 16 (s.take 16).1)).cells (.slice none (opK 4 (padTo 16 (s.take 16).1)).b.length 0)) 8 [[], [], [1], [], [3], [3, 4], [1, 2, 3, 4, 5], [0], [0, 1, 2, 3, 4, 5, 6, 7]] [(0, RV.IsV (.agg ((opK 4 (padTo 16 (s.take 16).1)).cells (.slice none (opK 4 (padTo 16 (s.take 16).1)).b.length 0)).toArray)), (4, RV.IsV (.slice A7 (nrm (s.take 16).2).length c7)), (7, fun _ w' => Blk w' z 86 ((opK 4 (padTo 16 (s.take 16).1)).cells (.slice none (opK 4 (padTo 16 (s.take 16).1)).b.length 0)))] mixed (by kernel_rfl) (by kernel_rfl) ?_ ?_
    · intro y hy v' a' b' hab hya
      simp only [List.mem_cons, List.not_mem_nil, or_false] at hy
      rcases hy with rfl | rfl | rfl
      · exact hya
      · exact hya
      · exact hab.done hya
    try simp (config := {maxSteps := 1000000}) only [↓zvD, zvU, ↓zqD, ↓up_apply, ↓hv_apply, ↓upO_some, ↓upO_none, ↓ev_tmp, ↓ev_const, ↓ev_func, ↓ev_global, init, Nat.reduceEqDiff, Nat.reduceAdd, Nat.reduceMul, Nat.reduceSub, ↓reduceIte, Int.reduceEq, Int.reduceNe, Nat.reduceLeDiff, one, Value.cells, Int.reduceLE, Int.reduceLT, Int.reduceToNat, add_mk, reduceCtorEq, List.mem_range'_1, true_and, and_true, and_false, false_and, Nat.reduceLT, Nat.reduceLeDiff, tyF]
    refine ⟨fun w1' hf => ?_, ?_⟩
    · have q1 := (hf.done fp).all_eq 49 (SOp.len (⟨padTo_len t6, rfl, rfl⟩ : SOp.Fit (opK 4 (padTo 16 (s.take 16).1))) _)
      simp only [q1]
      try simp (config := {maxSteps := 1000000}) only [↓zvD, zvU, ↓zqD, ↓up_apply, ↓hv_apply, ↓upO_some, ↓upO_none, ↓ev_tmp, ↓ev_const, ↓ev_func, ↓ev_global, init, Nat.reduceEqDiff, Nat.reduceAdd, Nat.reduceMul, Nat.reduceSub, ↓reduceIte, Int.reduceEq, Int.reduceNe, Nat.reduceLeDiff, one, Value.cells, Int.reduceLE, Int.reduceLT, Int.reduceToNat, add_mk, reduceCtorEq, List.mem_range'_1, true_and, and_true, and_false, false_and, Nat.reduceLT, Nat.reduceLeDiff, tyF]
      exact ⟨Fin.refl _ _ _ _, rfl⟩
    rintro _ ⟨w1', hf1, rfl⟩
    try simp (config := {maxSteps := 1000000}) only [↓zvD, zvU, ↓zqD, ↓up_apply, ↓hv_apply, ↓upO_some, ↓upO_none, ↓ev_tmp, ↓ev_const, ↓ev_func, ↓ev_global, init, Nat.reduceEqDiff, Nat.reduceAdd, Nat.reduceMul, Nat.reduceSub, ↓reduceIte, Int.reduceEq, Int.reduceNe, Nat.reduceLeDiff, one, Value.cells, Int.reduceLE, Int.reduceLT, Int.reduceToNat, add_mk, reduceCtorEq, List.mem_range'_1, true_and, and_true, and_false, false_and, Nat.reduceLT, Nat.reduceLeDiff, tyF]
    refine ⟨fun w1'' hf => ?_, ?_⟩
    · have q1 := (hf.blk _ _ _ (by decide) fR).cell 0
      simp only [List.getElem?_cons_zero] at q1
      simp only [q1]
      try simp (config := {maxSteps := 1000000}) only [↓zvD, zvU, ↓zqD, ↓up_apply, ↓hv_apply, ↓upO_some, ↓upO_none, ↓ev_tmp, ↓ev_const, ↓ev_func, ↓ev_global, init, Nat.reduceEqDiff, Nat.reduceAdd, Nat.reduceMul, Nat.reduceSub, ↓reduceIte, Int.reduceEq, Int.reduceNe, Nat.reduceLeDiff, one, Value.cells, Int.reduceLE, Int.reduceLT, Int.reduceToNat, add_mk, reduceCtorEq, List.mem_range'_1, true_and, and_true, and_false, false_and, Nat.reduceLT, Nat.reduceLeDiff, tyF]
      exact ⟨Fin.refl _ _ _ _, rfl⟩
    rintro _ ⟨w2', hf2, _, rfl⟩
    have el : IntKind.i64.wrap (((x :: rest).length : Int) - ((nrm (s.take 16).2).length : Int)) = ((rest.length + 1 : Nat) : Int) - (((s.take 16).2).rest.length : Int) := by
      rw [nrm_ok hbd, List.length_cons]
      have : ((s.take 16).2).rest.length ≤ rest.length := by rw [← hsl]; exact hrest
      exact w64 (by omega) (by omega)
    try simp (config := {maxSteps := 1000000}) only [↓zvD, zvU, ↓zqD, ↓up_apply, ↓hv_apply, ↓upO_some, ↓upO_none, ↓ev_tmp, ↓ev_const, ↓ev_func, ↓ev_global, init, Nat.reduceEqDiff, Nat.reduceAdd, Nat.reduceMul, Nat.reduceSub, ↓reduceIte, Int.reduceEq, Int.reduceNe, Nat.reduceLeDiff, one, Value.cells, Int.reduceLE, Int.reduceLT, Int.reduceToNat, add_mk, reduceCtorEq, List.mem_range'_1, true_and, and_true, and_false, false_and, Nat.reduceLT, Nat.reduceLeDiff, tyF, el]
    refine ⟨fun w3' hf _ => ?_, ?_⟩
    · obtain ⟨cs3, g3, g4⟩ := hf.some ⟨_, fz, by rw [SOp.len (opZ_fit 0), SOp.len (⟨padTo_len t6, rfl, rfl⟩ : SOp.Fit (opK 4 (padTo 16 (s.take 16).1)))]⟩
      refine st_all g3 (by simp [SOp.len (⟨padTo_len t6, rfl, rfl⟩ : SOp.Fit (opK 4 (padTo 16 (s.take 16).1)))]) (by rw [g4, SOp.len (⟨padTo_len t6, rfl, rfl⟩ : SOp.Fit (opK 4 (padTo 16 (s.take 16).1)))]) (fun u hu => SOp.one (opK 4 (padTo 16 (s.take 16).1)) (sl := .slice none (opK 4 (padTo 16 (s.take 16).1)).b.length 0) rfl u hu) fun w4' k1' k2' => ?_
      rw [List.toList_toArray] at k2'
      exact ⟨Fin.of_wr k1' g3 k2' (Nat.le_refl _), k2'⟩
    rintro _ ⟨w3', hf3, _, fz3⟩
    try simp (config := {maxSteps := 1000000}) only [↓zvD, zvU, ↓zqD, ↓up_apply, ↓hv_apply, ↓upO_some, ↓upO_none, ↓ev_tmp, ↓ev_const, ↓ev_func, ↓ev_global, init, Nat.reduceEqDiff, Nat.reduceAdd, Nat.reduceMul, Nat.reduceSub, ↓reduceIte, Int.reduceEq, Int.reduceNe, Nat.reduceLeDiff, one, Value.cells, Int.reduceLE, Int.reduceLT, Int.reduceToNat, add_mk, reduceCtorEq, List.mem_range'_1, true_and, and_true, and_false, false_and, Nat.reduceLT, Nat.reduceLeDiff, tyF, el]
    intro w4' hf4 hd4
    have fz4 : Blk w4' z 86 ((opK 4 (padTo 16 (s.take 16).1)).cells (.slice none (opK 4 (padTo 16 (s.take 16).1)).b.length 0)) := hd4 (7, fun w' => Blk w' z 86 ((opK 4 (padTo 16 (s.take 16).1)).cells (.slice none (opK 4 (padTo 16 (s.take 16).1)).b.length 0))) (by simp)
    have fzv := fz4.all_eq 49 (SOp.len (⟨padTo_len t6, rfl, rfl⟩ : SOp.Fit (opK 4 (padTo 16 (s.take 16).1))) _)
    try rw [stop1]
    try simp (config := {maxSteps := 1000000}) only [↓zvD, zvU, ↓up_apply, ↓hv_apply, ↓upO_some, ↓upO_none, ↓ev_tmp, ↓ev_const, ↓ev_func, ↓ev_global, init, Nat.reduceEqDiff, Nat.reduceAdd, Nat.reduceMul, Nat.reduceSub, ↓reduceIte, Int.reduceEq, Int.reduceNe, Nat.reduceLeDiff, one, Value.cells, Int.reduceLE, Int.reduceLT, Int.reduceToNat, add_mk, reduceCtorEq, List.mem_range'_1, true_and, and_true, and_false, false_and, Nat.reduceLT, Nat.reduceLeDiff, tyF, el]
    refine hK _ _ ?_
    clear hK K
    try simp (config := {maxSteps := 1000000}) only [↓zvD, zvU, ↓up_apply, ↓hv_apply, ↓upO_some, ↓upO_none, ↓ev_tmp, ↓ev_const, ↓ev_func, ↓ev_global, init, Nat.reduceEqDiff, Nat.reduceAdd, Nat.reduceMul, Nat.reduceSub, ↓reduceIte, Int.reduceEq, Int.reduceNe, Nat.reduceLeDiff, one, Value.cells, Int.reduceLE, Int.reduceLT, Int.reduceToNat, add_mk, reduceCtorEq, List.mem_range'_1, true_and, and_true, and_false, false_and, Nat.reduceLT, Nat.reduceLeDiff, tyF, p_nil]
    try simp only [fzv]
    try simp (config := {maxSteps := 1000000}) only [↓zvD, zvU, ↓up_apply, ↓hv_apply, ↓upO_some, ↓upO_none, ↓ev_tmp, ↓ev_const, ↓ev_func, ↓ev_global, init, Nat.reduceEqDiff, Nat.reduceAdd, Nat.reduceMul, Nat.reduceSub, ↓reduceIte, Int.reduceEq, Int.reduceNe, Nat.reduceLeDiff, one, Value.cells, Int.reduceLE, Int.reduceLT, Int.reduceToNat, add_mk, reduceCtorEq, List.mem_range'_1, true_and, and_true, and_false, false_and, Nat.reduceLT, Nat.reduceLeDiff, tyF]
    have hmw : More w w4' := Below.trans fm (by rw [hzz]; exact hf4.below)
    exact ⟨fun h => absurd (hbd.symm.trans h) (by simp), fun _ => ⟨none, 0, rfl, fA, (by simp [opK])⟩, hmw⟩
theorem one_5 (w0 w : World) (hw0 : More w0 w) (A : Option Addr) (x : UInt8) (rest : List UInt8) (c : Nat) (hA : Bs w0 A (x :: rest)) (hc : (x :: rest).length ≤ c) (hl : rest.length ≤ 1000000) (hkk : (x.toNat : Int) = 5) :
    Ret Try.prog 86 #[.slice A (x :: rest).length c] w (OneR w0 w (rest.length + 1) (takeM x.toNat ⟨rest, false⟩)) := by
  refine ret_of Try.func86 rfl (by kernel_rfl) (Nat.le_of_ble_eq_true (by kernel_rfl)) ?_
  obtain ⟨a, rfl⟩ := hA.isAt (by simp)
  have hx0 : ∀ w', More w w' → w'.cell? (a.add 0) = some (.int .u8 x.toNat) := fun w' h => by
    obtain ⟨b, hb, h0⟩ := (hA.more (hw0.trans h)) 0 (byteV x) rfl
    cases hb
    exact h0
  have hm1 := more_alloc w (.cells ((opZ 0).cells (.slice none 0 0)).toArray 86)
  have hb1 := Blk.new w 86 ((opZ 0).cells (.slice none 0 0)).toArray
  have s1 := size_alloc w (.cells ((opZ 0).cells (.slice none 0 0)).toArray 86)
  have c1 := hx0 _ hm1
  simp (config := {maxSteps := 1000000}) only [↓zvD, zvU, ↓up_apply, ↓hv_apply, ↓upO_some, ↓upO_none, ↓ev_tmp, ↓ev_const, ↓ev_func, ↓ev_global, init, Nat.reduceEqDiff, Nat.reduceAdd, Nat.reduceMul, Nat.reduceSub, ↓reduceIte, Int.reduceEq, Int.reduceNe, Nat.reduceLeDiff, one, Value.cells, Int.reduceLE, Int.reduceLT, Int.reduceToNat, add_mk, reduceCtorEq, List.mem_range'_1, true_and, and_true, and_false, false_and, Nat.reduceLT, Nat.reduceLeDiff, tyF, zerROp]
  generalize w.alloc (.cells ((opZ 0).cells (.slice none 0 0)).toArray 86) = w1 at hm1 hb1 s1 c1 ⊢
  refine ⟨by simp only [List.length_cons]; omega, ?_⟩
  simp (config := {maxSteps := 1000000}) only [↓zvD, zvU, ↓up_apply, ↓hv_apply, ↓upO_some, ↓upO_none, ↓ev_tmp, ↓ev_const, ↓ev_func, ↓ev_global, init, Nat.reduceEqDiff, Nat.reduceAdd, Nat.reduceMul, Nat.reduceSub, ↓reduceIte, Int.reduceEq, Int.reduceNe, Nat.reduceLeDiff, one, Value.cells, Int.reduceLE, Int.reduceLT, Int.reduceToNat, add_mk, reduceCtorEq, List.mem_range'_1, true_and, and_true, and_false, false_and, Nat.reduceLT, Nat.reduceLeDiff, tyF, c1, rop_build x.toNat w1, zerROp]
  have hm2 := more_alloc w1 (.cells ((opZ 0).cells (.slice none 0 0)).toArray 86)
  have hb2 := Blk.new w1 86 ((opZ 0).cells (.slice none 0 0)).toArray
  have s2 := size_alloc w1 (.cells ((opZ 0).cells (.slice none 0 0)).toArray 86)
  generalize w1.alloc (.cells ((opZ 0).cells (.slice none 0 0)).toArray 86) = w2 at hm2 hb2 s2 ⊢
  rw [List.toList_toArray] at hb1 hb2
  have hz2 := hb1.more hm2
  replace hm2 := hm1.trans hm2
  refine st_all hb2 (by simp [SOp.len (opZ_fit _)]) (SOp.len (opZ_fit 0) _) (fun u hu => SOp.one (opZ x.toNat) (sl := .slice none 0 0) rfl u hu) fun w3 j1 j2 => ?_
  rw [List.toList_toArray] at j2
  have hz3 := j1.blk hz2 (by omega)
  have s3 := j1.size
  have hm3 : More w w3 := j1.below hm2 (by omega)
  have g1 : (1 : Nat) ≤ (x :: rest).length := by simp
  simp (config := {maxSteps := 1000000}) only [↓zvD, zvU, ↓up_apply, ↓hv_apply, ↓upO_some, ↓upO_none, ↓ev_tmp, ↓ev_const, ↓ev_func, ↓ev_global, init, Nat.reduceEqDiff, Nat.reduceAdd, Nat.reduceMul, Nat.reduceSub, ↓reduceIte, Int.reduceEq, Int.reduceNe, Nat.reduceLeDiff, one, Value.cells, Int.reduceLE, Int.reduceLT, Int.reduceToNat, add_mk, reduceCtorEq, List.mem_range'_1, true_and, and_true, and_false, false_and, Nat.reduceLT, Nat.reduceLeDiff, tyF, rin_build _ _ _ w3, zer51, g1]
  have hm4 := more_alloc w3 (.cells #[.slice none 0 0, .bool false] 51)
  have hb4 := Blk.new w3 51 #[.slice none 0 0, .bool false]
  have s4 := size_alloc w3 (.cells #[.slice none 0 0, .bool false] 51)
  generalize w3.alloc (.cells #[.slice none 0 0, .bool false] 51) = w4 at hm4 hb4 s4 ⊢
  refine st_all hb4 rfl rfl (by intro u hu; simp at hu; rcases hu with rfl | rfl <;> rfl) fun w5 k1 k2 => ?_
  rw [List.toList_toArray] at k2
  have hz5 := k1.blk (hz3.more hm4) (by omega)
  have hp5 := k1.blk (j2.more hm4) (by omega)
  have s5 := k1.size
  have hm5 : More w w5 := k1.below (hm3.trans hm4) (by omega)
  have hRI5 : RIs w0 ⟨rest, false⟩ (RV.adv (some a) c 1 1) (c - 1) := by
    refine ⟨?_, by rw [nrm_ok rfl]; simp at hc; show rest.length ≤ _; omega⟩
    rw [nrm_ok rfl]
    exact Cs.advB (k := 1) hA hc
  have hR5 : Blk w5 w3.heap.size 51 [.slice (RV.adv (some a) c 1 1) (nrm ⟨rest, false⟩).length (c - 1), .bool (InM.mk rest false).bad] := k2
  have hsl : (InM.mk rest false).rest.length = rest.length := rfl
  have hkx : (x.toNat : Int) = x.toNat := rfl
  generalize hAr : RV.adv (some a) c 1 1 = Ar at hRI5 hR5
  generalize hcr : c - 1 = cr at hRI5 hR5
  generalize hss : InM.mk rest false = s at hRI5 hR5 hsl ⊢
  generalize hzz : w.heap.size = z at *
  generalize hpp : w1.heap.size = p at *
  generalize hrr : w3.heap.size = r at *
  have hrest := takeM_rest x.toNat s
  have kc := hp5.cell 0
  have kc : w5.cell? ⟨p, 0, none⟩ = some (.int .u8 x.toNat) := by rw [hp5.cell]; rfl
  generalize hk : (x.toNat : Int) = k at *
  unfold takeM at hrest ⊢
  have hv5 := hR5.all_eq 2 rfl
  subst hkk
  rw [if_neg (show ¬ ((5 : Int) = 1) by decide), if_neg (show ¬ ((5 : Int) = 2) by decide), if_neg (show ¬ ((5 : Int) = 4) by decide), if_pos rfl] at hrest ⊢
  simp (config := {maxSteps := 1000000}) only [↓zvD, zvU, ↓up_apply, ↓hv_apply, ↓upO_some, ↓upO_none, ↓ev_tmp, ↓ev_const, ↓ev_func, ↓ev_global, init, Nat.reduceEqDiff, Nat.reduceAdd, Nat.reduceMul, Nat.reduceSub, ↓reduceIte, Int.reduceEq, Int.reduceNe, Nat.reduceLeDiff, one, Value.cells, Int.reduceLE, Int.reduceLT, Int.reduceToNat, add_mk, reduceCtorEq, List.mem_range'_1, true_and, and_true, and_false, false_and, Nat.reduceLT, Nat.reduceLeDiff, tyF, kc, hv5]
  refine call_ok Try.call30 (refI_take w0 _ s _ _ 1 hRI5 (hw0.trans hm5) (by omega)) ?_
  rintro _ w6 ⟨A6, c6, rfl, hRI6, hm6⟩
  simp (config := {maxSteps := 1000000}) only [↓zvD, zvU, ↓up_apply, ↓hv_apply, ↓upO_some, ↓upO_none, ↓ev_tmp, ↓ev_const, ↓ev_func, ↓ev_global, init, Nat.reduceEqDiff, Nat.reduceAdd, Nat.reduceMul, Nat.reduceSub, ↓reduceIte, Int.reduceEq, Int.reduceNe, Nat.reduceLeDiff, one, Value.cells, Int.reduceLE, Int.reduceLT, Int.reduceToNat, add_mk, reduceCtorEq, List.mem_range'_1, true_and, and_true, and_false, false_and, Nat.reduceLT, Nat.reduceLeDiff, tyF]
  refine st_all (hR5.more hm6) rfl rfl (rin_one A6 (nrm (s.take 1).2).length c6 ((s.take 1).2).bad) fun w7 i1 hR7 => ?_
  rw [List.toList_toArray] at hR7
  have hp7 := i1.blk (hp5.more hm6) (by omega)
  have hz7 := i1.blk (hz5.more hm6) (by omega)
  have hm7 : More w w7 := i1.below (hm5.trans hm6) (by omega)
  have hv7 := hR7.all_eq 2 rfl
  try simp (config := {maxSteps := 1000000}) only [↓zvD, zvU, ↓up_apply, ↓hv_apply, ↓upO_some, ↓upO_none, ↓ev_tmp, ↓ev_const, ↓ev_func, ↓ev_global, init, Nat.reduceEqDiff, Nat.reduceAdd, Nat.reduceMul, Nat.reduceSub, ↓reduceIte, Int.reduceEq, Int.reduceNe, Nat.reduceLeDiff, one, Value.cells, Int.reduceLE, Int.reduceLT, Int.reduceToNat, add_mk, reduceCtorEq, List.mem_range'_1, true_and, and_true, and_false, false_and, Nat.reduceLT, Nat.reduceLeDiff, tyF]
  try simp only [hv7]
  try simp (config := {maxSteps := 1000000}) only [↓zvD, zvU, ↓up_apply, ↓hv_apply, ↓upO_some, ↓upO_none, ↓ev_tmp, ↓ev_const, ↓ev_func, ↓ev_global, init, Nat.reduceEqDiff, Nat.reduceAdd, Nat.reduceMul, Nat.reduceSub, ↓reduceIte, Int.reduceEq, Int.reduceNe, Nat.reduceLeDiff, one, Value.cells, Int.reduceLE, Int.reduceLT, Int.reduceToNat, add_mk, reduceCtorEq, List.mem_range'_1, true_and, and_true, and_false, false_and, Nat.reduceLT, Nat.reduceLeDiff, tyF]
  refine call_ok Try.call34 (refI_raw w0 _ (s.take 1).2 _ _ 7 hRI6 (hw0.trans hm7)) ?_
  rintro _ w8 ⟨A8, c8, A9, c9, rfl, hB8, hle8, hRI9, hm8⟩
  have t8 : ((s.take 1).2.take 7).1.length ≤ 7 := by simpa using (s.take 1).2.take_len 7
  simp (config := {maxSteps := 1000000}) only [↓zvD, zvU, ↓up_apply, ↓hv_apply, ↓upO_some, ↓upO_none, ↓ev_tmp, ↓ev_const, ↓ev_func, ↓ev_global, init, Nat.reduceEqDiff, Nat.reduceAdd, Nat.reduceMul, Nat.reduceSub, ↓reduceIte, Int.reduceEq, Int.reduceNe, Nat.reduceLeDiff, one, Value.cells, Int.reduceLE, Int.reduceLT, Int.reduceToNat, add_mk, reduceCtorEq, List.mem_range'_1, true_and, and_true, and_false, false_and, Nat.reduceLT, Nat.reduceLeDiff, tyF]
  refine st_all (hR7.more hm8) rfl rfl (rin_one A9 (nrm ((s.take 1).2.take 7).2).length c9 (((s.take 1).2.take 7).2).bad) fun w9 i2 hR9 => ?_
  rw [List.toList_toArray] at hR9
  have hp9 := i2.blk (hp7.more hm8) (by omega)
  have hz9 := i2.blk (hz7.more hm8) (by omega)
  have hm9 : More w w9 := i2.below (hm7.trans hm8) (by omega)
  try simp (config := {maxSteps := 1000000}) only [↓zvD, zvU, ↓up_apply, ↓hv_apply, ↓upO_some, ↓upO_none, ↓ev_tmp, ↓ev_const, ↓ev_func, ↓ev_global, init, Nat.reduceEqDiff, Nat.reduceAdd, Nat.reduceMul, Nat.reduceSub, ↓reduceIte, Int.reduceEq, Int.reduceNe, Nat.reduceLeDiff, one, Value.cells, Int.reduceLE, Int.reduceLT, Int.reduceToNat, add_mk, reduceCtorEq, List.mem_range'_1, true_and, and_true, and_false, false_and, Nat.reduceLT, Nat.reduceLeDiff, tyF]
  refine st_cell hp9 (by rw [SOp.len (opZ_fit 5)]; omega) rfl fun w10 i3 i4 => ?_
  have hp10 : Blk w10 p 86 ((opP 5 (decide (be (s.take 1).1 = 1)) (padTo 7 (((s.take 1).2.take 7).1.take 0))).cells (.slice none 0 0)) := i4
  have hz10 := i3.blk hz9 (by omega)
  have hR10 := i3.blk hR9 (by omega)
  have hm10 : More w w10 := i3.below hm9 (by omega)
  try simp (config := {maxSteps := 1000000}) only [↓zvD, zvU, ↓up_apply, ↓hv_apply, ↓upO_some, ↓upO_none, ↓ev_tmp, ↓ev_const, ↓ev_func, ↓ev_global, init, Nat.reduceEqDiff, Nat.reduceAdd, Nat.reduceMul, Nat.reduceSub, ↓reduceIte, Int.reduceEq, Int.reduceNe, Nat.reduceLeDiff, one, Value.cells, Int.reduceLE, Int.reduceLT, Int.reduceToNat, add_mk, reduceCtorEq, List.mem_range'_1, true_and, and_true, and_false, false_and, Nat.reduceLT, Nat.reduceLeDiff, tyF]
  refine loop_p (10 :: List.range' 104 12) (fun e w' => AddrJ w p z r (decide (be (s.take 1).1 = 1)) ((s.take 1).2.take 7).1 ((s.take 1).2.take 7).2 A9 c9 (e 104) w') (fun e _ => ((s.take 1).2.take 7).1.length - (numOf (e 104)).toNat) ?_ ?_
  · exact ⟨0, by simp only [hv_apply, up_apply, upO_some, upO_none, init, List.mem_cons, List.mem_range'_1, true_and, and_true, and_false, false_and, Nat.reduceLT, Nat.reduceLeDiff, Nat.reduceAdd, true_or, or_true, if_true, if_false, ↓reduceIte, Nat.reduceEqDiff, false_or, or_false, List.not_mem_nil, List.getElem?_cons_zero, List.getElem?_cons_succ, Option.getD_some] <;> rfl, by omega, hp10, hz10, hR10, hm10⟩
  rintro v w11 ⟨j, h104, hj, hp11, hz11, hR11, hm11⟩
  simp only [hv_apply, up_apply, upO_some, upO_none, init, List.mem_cons, List.mem_range'_1, true_and, and_true, and_false, false_and, Nat.reduceLT, Nat.reduceLeDiff, Nat.reduceAdd, true_or, or_true, if_true, if_false, ↓reduceIte, Nat.reduceEqDiff, false_or, or_false, List.not_mem_nil, List.getElem?_cons_zero, List.getElem?_cons_succ, Option.getD_some] at h104
  have ek : IntKind.i64.wrap ((j : Int) + 1) = ((j + 1 : Nat) : Int) := w64 (by omega) (by omega)
  simp (config := {maxSteps := 1000000}) only [↓zvD, zvU, ↓up_apply, ↓hv_apply, ↓upO_some, ↓upO_none, ↓ev_tmp, ↓ev_const, ↓ev_func, ↓ev_global, init, Nat.reduceEqDiff, Nat.reduceAdd, Nat.reduceMul, Nat.reduceSub, ↓reduceIte, Int.reduceEq, Int.reduceNe, Nat.reduceLeDiff, one, Value.cells, Int.reduceLE, Int.reduceLT, Int.reduceToNat, add_mk, reduceCtorEq, List.mem_range'_1, true_and, and_true, and_false, false_and, Nat.reduceLT, Nat.reduceLeDiff, tyF, h104]
  refine ⟨fun h9 => ?_, fun h9 => ?_⟩
  · have hj1 : j < ((s.take 1).2.take 7).1.length := by omega
    obtain ⟨a8, rfl⟩ := hB8.isAt (by omega)
    have hc := (hB8.more (hw0.trans hm11)).cellN hj1
    have g0 : (0 : Int) ≤ (j : Int) := by omega
    have g7 : (j : Int) < 7 := by omega
    simp (config := {maxSteps := 1000000}) only [↓zvD, zvU, ↓up_apply, ↓hv_apply, ↓upO_some, ↓upO_none, ↓ev_tmp, ↓ev_const, ↓ev_func, ↓ev_global, init, Nat.reduceEqDiff, Nat.reduceAdd, Nat.reduceMul, Nat.reduceSub, ↓reduceIte, Int.reduceEq, Int.reduceNe, Nat.reduceLeDiff, one, Value.cells, Int.reduceLE, Int.reduceLT, Int.reduceToNat, add_mk, reduceCtorEq, List.mem_range'_1, true_and, and_true, and_false, false_and, Nat.reduceLT, Nat.reduceLeDiff, tyF, h104, hc, g0, g7, h9, Int.toNat_natCast]
    refine st_cell hp11 (by rw [SOp.len (o := opP 5 (decide (be (s.take 1).1 = 1)) (padTo 7 (((s.take 1).2.take 7).1.take j))) ⟨rfl, padTo_len (by simp; omega), rfl⟩]; omega) rfl fun w12 i5 i6 => ?_
    rw [opP_set 5 _ _ hj1 t8] at i6
    simp (config := {maxSteps := 1000000}) only [↓zvD, zvU, ↓up_apply, ↓hv_apply, ↓upO_some, ↓upO_none, ↓ev_tmp, ↓ev_const, ↓ev_func, ↓ev_global, init, Nat.reduceEqDiff, Nat.reduceAdd, Nat.reduceMul, Nat.reduceSub, ↓reduceIte, Int.reduceEq, Int.reduceNe, Nat.reduceLeDiff, one, Value.cells, Int.reduceLE, Int.reduceLT, Int.reduceToNat, add_mk, reduceCtorEq, List.mem_range'_1, true_and, and_true, and_false, false_and, Nat.reduceLT, Nat.reduceLeDiff, tyF, h104, ek]
    refine ⟨⟨?_, j + 1, rfl, by omega, i6, i5.blk hz11 (by omega), i5.blk hR11 (by omega), i5.below hm11 (by omega)⟩, by simp only [numOf]; omega⟩
    repeat (first | exact Same.hv _ _ _ | refine Same.up (by simp) ?_)
  obtain rfl : j = ((s.take 1).2.take 7).1.length := by omega
  rw [List.take_length] at hp11
  have cb0 := hR11.cell 1
  simp only [List.getElem?_cons_succ, List.getElem?_cons_zero] at cb0
  by_cases hx : 1 < be (s.take 1).1
  · rw [if_pos hx]
    have hst : ∀ w', Wr r w11 w' → Blk w' r 51 [.slice A9 (nrm ((s.take 1).2.take 7).2).length c9, .bool true] → w'.cell? ⟨r, 1, none⟩ = some (.bool true) := fun w' _ h => h.cell 1
    cases hby : ((s.take 1).2.take 7).2.bad with
    | true =>
      rw [hby] at cb0
      simp (config := {maxSteps := 1000000}) only [↓zvD, zvU, ↓up_apply, ↓hv_apply, ↓upO_some, ↓upO_none, ↓ev_tmp, ↓ev_const, ↓ev_func, ↓ev_global, init, Nat.reduceEqDiff, Nat.reduceAdd, Nat.reduceMul, Nat.reduceSub, ↓reduceIte, Int.reduceEq, Int.reduceNe, Nat.reduceLeDiff, one, Value.cells, Int.reduceLE, Int.reduceLT, Int.reduceToNat, add_mk, reduceCtorEq, List.mem_range'_1, true_and, and_true, and_false, false_and, Nat.reduceLT, Nat.reduceLeDiff, tyF, cb0, hx]
      refine st_cell hR11 (by simp) rfl fun w12 i5 i6 => ?_
      have fz := (i5.blk hz11 (by omega))
      have fm := (i5.below hm11 (by omega))
      have cb : _ = some (Value.bool true) := (i6.cell 1)
      try simp (config := {maxSteps := 1000000}) only [↓zvD, zvU, ↓up_apply, ↓hv_apply, ↓upO_some, ↓upO_none, ↓ev_tmp, ↓ev_const, ↓ev_func, ↓ev_global, init, Nat.reduceEqDiff, Nat.reduceAdd, Nat.reduceMul, Nat.reduceSub, ↓reduceIte, Int.reduceEq, Int.reduceNe, Nat.reduceLeDiff, one, Value.cells, Int.reduceLE, Int.reduceLT, Int.reduceToNat, add_mk, reduceCtorEq, List.mem_range'_1, true_and, and_true, and_false, false_and, Nat.reduceLT, Nat.reduceLeDiff, tyF]
      simp only [cb]
      simp (config := {maxSteps := 1000000}) only [↓zvD, zvU, ↓up_apply, ↓hv_apply, ↓upO_some, ↓upO_none, ↓ev_tmp, ↓ev_const, ↓ev_func, ↓ev_global, init, Nat.reduceEqDiff, Nat.reduceAdd, Nat.reduceMul, Nat.reduceSub, ↓reduceIte, Int.reduceEq, Int.reduceNe, Nat.reduceLeDiff, one, Value.cells, Int.reduceLE, Int.reduceLT, Int.reduceToNat, add_mk, reduceCtorEq, List.mem_range'_1, true_and, and_true, and_false, false_and, Nat.reduceLT, Nat.reduceLeDiff, tyF]
      rw [rop_build0 w]
      try simp (config := {maxSteps := 1000000}) only [↓zvD, zvU, ↓up_apply, ↓hv_apply, ↓upO_some, ↓upO_none, ↓ev_tmp, ↓ev_const, ↓ev_func, ↓ev_global, init, Nat.reduceEqDiff, Nat.reduceAdd, Nat.reduceMul, Nat.reduceSub, ↓reduceIte, Int.reduceEq, Int.reduceNe, Nat.reduceLeDiff, one, Value.cells, Int.reduceLE, Int.reduceLT, Int.reduceToNat, add_mk, reduceCtorEq, List.mem_range'_1, true_and, and_true, and_false, false_and, Nat.reduceLT, Nat.reduceLeDiff, tyF]
      rw [st_same_eq fz (SOp.len (opZ_fit 0) _) (SOp.one (opZ 0) (sl := .slice none 0 0) rfl)]
      have fzv := fz.all_eq 49 (SOp.len (opZ_fit 0) _)
      try simp (config := {maxSteps := 1000000}) only [↓zvD, zvU, ↓up_apply, ↓hv_apply, ↓upO_some, ↓upO_none, ↓ev_tmp, ↓ev_const, ↓ev_func, ↓ev_global, init, Nat.reduceEqDiff, Nat.reduceAdd, Nat.reduceMul, Nat.reduceSub, ↓reduceIte, Int.reduceEq, Int.reduceNe, Nat.reduceLeDiff, one, Value.cells, Int.reduceLE, Int.reduceLT, Int.reduceToNat, add_mk, reduceCtorEq, List.mem_range'_1, true_and, and_true, and_false, false_and, Nat.reduceLT, Nat.reduceLeDiff, tyF]
      try simp only [fzv]
      try simp (config := {maxSteps := 1000000}) only [↓zvD, zvU, ↓up_apply, ↓hv_apply, ↓upO_some, ↓upO_none, ↓ev_tmp, ↓ev_const, ↓ev_func, ↓ev_global, init, Nat.reduceEqDiff, Nat.reduceAdd, Nat.reduceMul, Nat.reduceSub, ↓reduceIte, Int.reduceEq, Int.reduceNe, Nat.reduceLeDiff, one, Value.cells, Int.reduceLE, Int.reduceLT, Int.reduceToNat, add_mk, reduceCtorEq, List.mem_range'_1, true_and, and_true, and_false, false_and, Nat.reduceLT, Nat.reduceLeDiff, tyF]
      exact ⟨fun _ => rfl, fun h => absurd (((show ((InM.mk (s.take 1).2.rest true).take 7).2.bad = true by rw [take_no (.inl rfl)])).symm.trans h) (by simp), fm⟩
    | false =>
      rw [hby] at cb0
      simp (config := {maxSteps := 1000000}) only [↓zvD, zvU, ↓up_apply, ↓hv_apply, ↓upO_some, ↓upO_none, ↓ev_tmp, ↓ev_const, ↓ev_func, ↓ev_global, init, Nat.reduceEqDiff, Nat.reduceAdd, Nat.reduceMul, Nat.reduceSub, ↓reduceIte, Int.reduceEq, Int.reduceNe, Nat.reduceLeDiff, one, Value.cells, Int.reduceLE, Int.reduceLT, Int.reduceToNat, add_mk, reduceCtorEq, List.mem_range'_1, true_and, and_true, and_false, false_and, Nat.reduceLT, Nat.reduceLeDiff, tyF, cb0, hx]
      refine st_cell hR11 (by simp) rfl fun w12 i5 i6 => ?_
      have fz := (i5.blk hz11 (by omega))
      have fm := (i5.below hm11 (by omega))
      have cb : _ = some (Value.bool true) := (i6.cell 1)
      try simp (config := {maxSteps := 1000000}) only [↓zvD, zvU, ↓up_apply, ↓hv_apply, ↓upO_some, ↓upO_none, ↓ev_tmp, ↓ev_const, ↓ev_func, ↓ev_global, init, Nat.reduceEqDiff, Nat.reduceAdd, Nat.reduceMul, Nat.reduceSub, ↓reduceIte, Int.reduceEq, Int.reduceNe, Nat.reduceLeDiff, one, Value.cells, Int.reduceLE, Int.reduceLT, Int.reduceToNat, add_mk, reduceCtorEq, List.mem_range'_1, true_and, and_true, and_false, false_and, Nat.reduceLT, Nat.reduceLeDiff, tyF]
      simp only [cb]
      simp (config := {maxSteps := 1000000}) only [↓zvD, zvU, ↓up_apply, ↓hv_apply, ↓upO_some, ↓upO_none, ↓ev_tmp, ↓ev_const, ↓ev_func, ↓ev_global, init, Nat.reduceEqDiff, Nat.reduceAdd, Nat.reduceMul, Nat.reduceSub, ↓reduceIte, Int.reduceEq, Int.reduceNe, Nat.reduceLeDiff, one, Value.cells, Int.reduceLE, Int.reduceLT, Int.reduceToNat, add_mk, reduceCtorEq, List.mem_range'_1, true_and, and_true, and_false, false_and, Nat.reduceLT, Nat.reduceLeDiff, tyF]
      rw [rop_build0 w]
      try simp (config := {maxSteps := 1000000}) only [↓zvD, zvU, ↓up_apply, ↓hv_apply, ↓upO_some, ↓upO_none, ↓ev_tmp, ↓ev_const, ↓ev_func, ↓ev_global, init, Nat.reduceEqDiff, Nat.reduceAdd, Nat.reduceMul, Nat.reduceSub, ↓reduceIte, Int.reduceEq, Int.reduceNe, Nat.reduceLeDiff, one, Value.cells, Int.reduceLE, Int.reduceLT, Int.reduceToNat, add_mk, reduceCtorEq, List.mem_range'_1, true_and, and_true, and_false, false_and, Nat.reduceLT, Nat.reduceLeDiff, tyF]
      rw [st_same_eq fz (SOp.len (opZ_fit 0) _) (SOp.one (opZ 0) (sl := .slice none 0 0) rfl)]
      have fzv := fz.all_eq 49 (SOp.len (opZ_fit 0) _)
      try simp (config := {maxSteps := 1000000}) only [↓zvD, zvU, ↓up_apply, ↓hv_apply, ↓upO_some, ↓upO_none, ↓ev_tmp, ↓ev_const, ↓ev_func, ↓ev_global, init, Nat.reduceEqDiff, Nat.reduceAdd, Nat.reduceMul, Nat.reduceSub, ↓reduceIte, Int.reduceEq, Int.reduceNe, Nat.reduceLeDiff, one, Value.cells, Int.reduceLE, Int.reduceLT, Int.reduceToNat, add_mk, reduceCtorEq, List.mem_range'_1, true_and, and_true, and_false, false_and, Nat.reduceLT, Nat.reduceLeDiff, tyF]
      try simp only [fzv]
      try simp (config := {maxSteps := 1000000}) only [↓zvD, zvU, ↓up_apply, ↓hv_apply, ↓upO_some, ↓upO_none, ↓ev_tmp, ↓ev_const, ↓ev_func, ↓ev_global, init, Nat.reduceEqDiff, Nat.reduceAdd, Nat.reduceMul, Nat.reduceSub, ↓reduceIte, Int.reduceEq, Int.reduceNe, Nat.reduceLeDiff, one, Value.cells, Int.reduceLE, Int.reduceLT, Int.reduceToNat, add_mk, reduceCtorEq, List.mem_range'_1, true_and, and_true, and_false, false_and, Nat.reduceLT, Nat.reduceLeDiff, tyF]
      exact ⟨fun _ => rfl, fun h => absurd (((show ((InM.mk (s.take 1).2.rest true).take 7).2.bad = true by rw [take_no (.inl rfl)])).symm.trans h) (by simp), fm⟩
  · rw [if_neg hx] at hrest ⊢
    cases hby : ((s.take 1).2.take 7).2.bad with
    | true =>
      rw [hby] at cb0
      simp (config := {maxSteps := 1000000}) only [↓zvD, zvU, ↓up_apply, ↓hv_apply, ↓upO_some, ↓upO_none, ↓ev_tmp, ↓ev_const, ↓ev_func, ↓ev_global, init, Nat.reduceEqDiff, Nat.reduceAdd, Nat.reduceMul, Nat.reduceSub, ↓reduceIte, Int.reduceEq, Int.reduceNe, Nat.reduceLeDiff, one, Value.cells, Int.reduceLE, Int.reduceLT, Int.reduceToNat, add_mk, reduceCtorEq, List.mem_range'_1, true_and, and_true, and_false, false_and, Nat.reduceLT, Nat.reduceLeDiff, tyF, cb0, hx]
      refine st_cell hR11 (by simp) rfl fun w12 i5 i6 => ?_
      have fz := (i5.blk hz11 (by omega))
      have fm := (i5.below hm11 (by omega))
      have cb : _ = some (Value.bool true) := (i6.cell 1)
      try simp (config := {maxSteps := 1000000}) only [↓zvD, zvU, ↓up_apply, ↓hv_apply, ↓upO_some, ↓upO_none, ↓ev_tmp, ↓ev_const, ↓ev_func, ↓ev_global, init, Nat.reduceEqDiff, Nat.reduceAdd, Nat.reduceMul, Nat.reduceSub, ↓reduceIte, Int.reduceEq, Int.reduceNe, Nat.reduceLeDiff, one, Value.cells, Int.reduceLE, Int.reduceLT, Int.reduceToNat, add_mk, reduceCtorEq, List.mem_range'_1, true_and, and_true, and_false, false_and, Nat.reduceLT, Nat.reduceLeDiff, tyF]
      simp only [cb]
      simp (config := {maxSteps := 1000000}) only [↓zvD, zvU, ↓up_apply, ↓hv_apply, ↓upO_some, ↓upO_none, ↓ev_tmp, ↓ev_const, ↓ev_func, ↓ev_global, init, Nat.reduceEqDiff, Nat.reduceAdd, Nat.reduceMul, Nat.reduceSub, ↓reduceIte, Int.reduceEq, Int.reduceNe, Nat.reduceLeDiff, one, Value.cells, Int.reduceLE, Int.reduceLT, Int.reduceToNat, add_mk, reduceCtorEq, List.mem_range'_1, true_and, and_true, and_false, false_and, Nat.reduceLT, Nat.reduceLeDiff, tyF]
      rw [rop_build0 w]
      try simp (config := {maxSteps := 1000000}) only [↓zvD, zvU, ↓up_apply, ↓hv_apply, ↓upO_some, ↓upO_none, ↓ev_tmp, ↓ev_const, ↓ev_func, ↓ev_global, init, Nat.reduceEqDiff, Nat.reduceAdd, Nat.reduceMul, Nat.reduceSub, ↓reduceIte, Int.reduceEq, Int.reduceNe, Nat.reduceLeDiff, one, Value.cells, Int.reduceLE, Int.reduceLT, Int.reduceToNat, add_mk, reduceCtorEq, List.mem_range'_1, true_and, and_true, and_false, false_and, Nat.reduceLT, Nat.reduceLeDiff, tyF]
      rw [st_same_eq fz (SOp.len (opZ_fit 0) _) (SOp.one (opZ 0) (sl := .slice none 0 0) rfl)]
      have fzv := fz.all_eq 49 (SOp.len (opZ_fit 0) _)
      try simp (config := {maxSteps := 1000000}) only [↓zvD, zvU, ↓up_apply, ↓hv_apply, ↓upO_some, ↓upO_none, ↓ev_tmp, ↓ev_const, ↓ev_func, ↓ev_global, init, Nat.reduceEqDiff, Nat.reduceAdd, Nat.reduceMul, Nat.reduceSub, ↓reduceIte, Int.reduceEq, Int.reduceNe, Nat.reduceLeDiff, one, Value.cells, Int.reduceLE, Int.reduceLT, Int.reduceToNat, add_mk, reduceCtorEq, List.mem_range'_1, true_and, and_true, and_false, false_and, Nat.reduceLT, Nat.reduceLeDiff, tyF]
      try simp only [fzv]
      try simp (config := {maxSteps := 1000000}) only [↓zvD, zvU, ↓up_apply, ↓hv_apply, ↓upO_some, ↓upO_none, ↓ev_tmp, ↓ev_const, ↓ev_func, ↓ev_global, init, Nat.reduceEqDiff, Nat.reduceAdd, Nat.reduceMul, Nat.reduceSub, ↓reduceIte, Int.reduceEq, Int.reduceNe, Nat.reduceLeDiff, one, Value.cells, Int.reduceLE, Int.reduceLT, Int.reduceToNat, add_mk, reduceCtorEq, List.mem_range'_1, true_and, and_true, and_false, false_and, Nat.reduceLT, Nat.reduceLeDiff, tyF]
      exact ⟨fun _ => rfl, fun h => absurd ((hby).symm.trans h) (by simp), fm⟩
    | false =>
      rw [hby] at cb0
      simp (config := {maxSteps := 1000000}) only [↓zvD, zvU, ↓up_apply, ↓hv_apply, ↓upO_some, ↓upO_none, ↓ev_tmp, ↓ev_const, ↓ev_func, ↓ev_global, init, Nat.reduceEqDiff, Nat.reduceAdd, Nat.reduceMul, Nat.reduceSub, ↓reduceIte, Int.reduceEq, Int.reduceNe, Nat.reduceLeDiff, one, Value.cells, Int.reduceLE, Int.reduceLT, Int.reduceToNat, add_mk, reduceCtorEq, List.mem_range'_1, true_and, and_true, and_false, false_and, Nat.reduceLT, Nat.reduceLeDiff, tyF, cb0, hx]
      refine st_cell hR11 (by simp) rfl fun w12 i5 i6 => ?_
      have hR12 : Blk w12 r 51 [.slice A9 (nrm ((s.take 1).2.take 7).2).length c9, .bool ((s.take 1).2.take 7).2.bad] := by rw [hby]; exact i6
      have fz := (i5.blk hz11 (by omega))
      have fp := (i5.blk hp11 (by omega))
      have fR := hR12
      have fm := (i5.below hm11 (by omega))
      have fA : Bs w0 (none : Option Addr) (opP 5 (decide (be (s.take 1).1 = 1)) (padTo 7 ((s.take 1).2.take 7).1)).b := (Cs.nil w0 _)
      cases hbd : (((s.take 1).2.take 7).2).bad with
      | true =>
        have cb := fR.cell 1
        simp only [hbd, List.getElem?_cons_succ, List.getElem?_cons_zero] at cb
        try simp (config := {maxSteps := 1000000}) only [↓zvD, zvU, ↓up_apply, ↓hv_apply, ↓upO_some, ↓upO_none, ↓ev_tmp, ↓ev_const, ↓ev_func, ↓ev_global, init, Nat.reduceEqDiff, Nat.reduceAdd, Nat.reduceMul, Nat.reduceSub, ↓reduceIte, Int.reduceEq, Int.reduceNe, Nat.reduceLeDiff, one, Value.cells, Int.reduceLE, Int.reduceLT, Int.reduceToNat, add_mk, reduceCtorEq, List.mem_range'_1, true_and, and_true, and_false, false_and, Nat.reduceLT, Nat.reduceLeDiff, tyF]
        simp only [cb]
        simp (config := {maxSteps := 1000000}) only [↓zvD, zvU, ↓up_apply, ↓hv_apply, ↓upO_some, ↓upO_none, ↓ev_tmp, ↓ev_const, ↓ev_func, ↓ev_global, init, Nat.reduceEqDiff, Nat.reduceAdd, Nat.reduceMul, Nat.reduceSub, ↓reduceIte, Int.reduceEq, Int.reduceNe, Nat.reduceLeDiff, one, Value.cells, Int.reduceLE, Int.reduceLT, Int.reduceToNat, add_mk, reduceCtorEq, List.mem_range'_1, true_and, and_true, and_false, false_and, Nat.reduceLT, Nat.reduceLeDiff, tyF]
        rw [rop_build0 w]
        try simp (config := {maxSteps := 1000000}) only [↓zvD, zvU, ↓up_apply, ↓hv_apply, ↓upO_some, ↓upO_none, ↓ev_tmp, ↓ev_const, ↓ev_func, ↓ev_global, init, Nat.reduceEqDiff, Nat.reduceAdd, Nat.reduceMul, Nat.reduceSub, ↓reduceIte, Int.reduceEq, Int.reduceNe, Nat.reduceLeDiff, one, Value.cells, Int.reduceLE, Int.reduceLT, Int.reduceToNat, add_mk, reduceCtorEq, List.mem_range'_1, true_and, and_true, and_false, false_and, Nat.reduceLT, Nat.reduceLeDiff, tyF]
        rw [st_same_eq fz (SOp.len (opZ_fit 0) _) (SOp.one (opZ 0) (sl := .slice none 0 0) rfl)]
        have fzv := fz.all_eq 49 (SOp.len (opZ_fit 0) _)
        try simp (config := {maxSteps := 1000000}) only [↓zvD, zvU, ↓up_apply, ↓hv_apply, ↓upO_some, ↓upO_none, ↓ev_tmp, ↓ev_const, ↓ev_func, ↓ev_global, init, Nat.reduceEqDiff, Nat.reduceAdd, Nat.reduceMul, Nat.reduceSub, ↓reduceIte, Int.reduceEq, Int.reduceNe, Nat.reduceLeDiff, one, Value.cells, Int.reduceLE, Int.reduceLT, Int.reduceToNat, add_mk, reduceCtorEq, List.mem_range'_1, true_and, and_true, and_false, false_and, Nat.reduceLT, Nat.reduceLeDiff, tyF]
        try simp only [fzv]
        try simp (config := {maxSteps := 1000000}) only [↓zvD, zvU, ↓up_apply, ↓hv_apply, ↓upO_some, ↓upO_none, ↓ev_tmp, ↓ev_const, ↓ev_func, ↓ev_global, init, Nat.reduceEqDiff, Nat.reduceAdd, Nat.reduceMul, Nat.reduceSub, ↓reduceIte, Int.reduceEq, Int.reduceNe, Nat.reduceLeDiff, one, Value.cells, Int.reduceLE, Int.reduceLT, Int.reduceToNat, add_mk, reduceCtorEq, List.mem_range'_1, true_and, and_true, and_false, false_and, Nat.reduceLT, Nat.reduceLeDiff, tyF]
        exact ⟨fun _ => rfl, fun h => absurd (hbd.symm.trans h) (by simp), fm⟩
      | false =>
        have cb := fR.cell 1
        simp only [hbd, List.getElem?_cons_succ, List.getElem?_cons_zero] at cb
        have ca := fR.cell 0
        simp only [List.getElem?_cons_zero] at ca
        have fps := fm.size
        try simp (config := {maxSteps := 1000000}) only [↓zvD, zvU, ↓up_apply, ↓hv_apply, ↓upO_some, ↓upO_none, ↓ev_tmp, ↓ev_const, ↓ev_func, ↓ev_global, init, Nat.reduceEqDiff, Nat.reduceAdd, Nat.reduceMul, Nat.reduceSub, ↓reduceIte, Int.reduceEq, Int.reduceNe, Nat.reduceLeDiff, one, Value.cells, Int.reduceLE, Int.reduceLT, Int.reduceToNat, add_mk, reduceCtorEq, List.mem_range'_1, true_and, and_true, and_false, false_and, Nat.reduceLT, Nat.reduceLeDiff, tyF]
        simp only [cb]
        try simp (config := {maxSteps := 1000000}) only [↓zvD, zvU, ↓up_apply, ↓hv_apply, ↓upO_some, ↓upO_none, ↓ev_tmp, ↓ev_const, ↓ev_func, ↓ev_global, init, Nat.reduceEqDiff, Nat.reduceAdd, Nat.reduceMul, Nat.reduceSub, ↓reduceIte, Int.reduceEq, Int.reduceNe, Nat.reduceLeDiff, one, Value.cells, Int.reduceLE, Int.reduceLT, Int.reduceToNat, add_mk, reduceCtorEq, List.mem_range'_1, true_and, and_true, and_false, false_and, Nat.reduceLT, Nat.reduceLeDiff, tyF]
        refine draw_name fun K hK => ?_
        refine draw_finB z (by omega) 86 ((opP 5 (decide (be (s.take 1).1 = 1)) (padTo 7 ((s.take 1).2.take 7).1)).cells (.slice none (opP 5 (decide (be (s.take 1).1 = 1)) (padTo 7 ((s.take 1).2.take 7).1)).b.length 0)) 8 [[], [], [1], [], [3], [3, 4], [1, 2, 3, 4, 5], [0], [0, 1, 2, 3, 4, 5, 6, 7]] [(0, RV.IsV (.agg ((opP 5 (decide (be (s.take 1).1 = 1)) (padTo 7 ((s.take 1).2.take 7).1)).cells (.slice none (opP 5 (decide (be (s.take 1).1 = 1)) (padTo 7 ((s.take 1).2.take 7).1)).b.length 0)).toArray)), (4, RV.IsV (.slice A9 (nrm ((s.take 1).2.take 7).2).length c9)), (7, fun _ w' => Blk w' z 86 ((opP 5 (decide (be (s.take 1).1 = 1)) (padTo 7 ((s.take 1).2.take 7).1)).cells (.slice none (opP 5 (decide (be (s.take 1).1 = 1)) (padTo 7 ((s.take 1).2.take 7).1)).b.length 0)))] mixed (by kernel_rfl) (by kernel_rfl) ?_ ?_
        · intro y hy v' a' b' hab hya
          simp only [List.mem_cons, List.not_mem_nil, or_false] at hy
          rcases hy with rfl | rfl | rfl
          · exact hya
          · exact hya
          · exact hab.done hya
        try simp (config := {maxSteps := 1000000}) only [↓zvD, zvU, ↓zqD, ↓up_apply, ↓hv_apply, ↓upO_some, ↓upO_none, ↓ev_tmp, ↓ev_const, ↓ev_func, ↓ev_global, init, Nat.reduceEqDiff, Nat.reduceAdd, Nat.reduceMul, Nat.reduceSub, ↓reduceIte, Int.reduceEq, Int.reduceNe, Nat.reduceLeDiff, one, Value.cells, Int.reduceLE, Int.reduceLT, Int.reduceToNat, add_mk, reduceCtorEq, List.mem_range'_1, true_and, and_true, and_false, false_and, Nat.reduceLT, Nat.reduceLeDiff, tyF]
        refine ⟨fun w1' hf => ?_, ?_⟩
        · have q1 := (hf.done fp).all_eq 49 (SOp.len (⟨rfl, padTo_len t8, rfl⟩ : SOp.Fit (opP 5 (decide (be (s.take 1).1 = 1)) (padTo 7 ((s.take 1).2.take 7).1))) _)
          simp only [q1]
          try simp (config := {maxSteps := 1000000}) only [↓zvD, zvU, ↓zqD, ↓up_apply, ↓hv_apply, ↓upO_some, ↓upO_none, ↓ev_tmp, ↓ev_const, ↓ev_func, ↓ev_global, init, Nat.reduceEqDiff, Nat.reduceAdd, Nat.reduceMul, Nat.reduceSub, ↓reduceIte, Int.reduceEq, Int.reduceNe, Nat.reduceLeDiff, one, Value.cells, Int.reduceLE, Int.reduceLT, Int.reduceToNat, add_mk, reduceCtorEq, List.mem_range'_1, true_and, and_true, and_false, false_and, Nat.reduceLT, Nat.reduceLeDiff, tyF]
          exact ⟨Fin.refl _ _ _ _, rfl⟩
        rintro _ ⟨w1', hf1, rfl⟩
        try simp (config := {maxSteps := 1000000}) only [↓zvD, zvU, ↓zqD, ↓up_apply, ↓hv_apply, ↓upO_some, ↓upO_none, ↓ev_tmp, ↓ev_const, ↓ev_func, ↓ev_global, init, Nat.reduceEqDiff, Nat.reduceAdd, Nat.reduceMul, Nat.reduceSub, ↓reduceIte, Int.reduceEq, Int.reduceNe, Nat.reduceLeDiff, one, Value.cells, Int.reduceLE, Int.reduceLT, Int.reduceToNat, add_mk, reduceCtorEq, List.mem_range'_1, true_and, and_true, and_false, false_and, Nat.reduceLT, Nat.reduceLeDiff, tyF]
        refine ⟨fun w1'' hf => ?_, ?_⟩
        · have q1 := (hf.blk _ _ _ (by decide) fR).cell 0
          simp only [List.getElem?_cons_zero] at q1
          simp only [q1]
          try simp (config := {maxSteps := 1000000}) only [↓zvD, zvU, ↓zqD, ↓up_apply, ↓hv_apply, ↓upO_some, ↓upO_none, ↓ev_tmp, ↓ev_const, ↓ev_func, ↓ev_global, init, Nat.reduceEqDiff, Nat.reduceAdd, Nat.reduceMul, Nat.reduceSub, ↓reduceIte, Int.reduceEq, Int.reduceNe, Nat.reduceLeDiff, one, Value.cells, Int.reduceLE, Int.reduceLT, Int.reduceToNat, add_mk, reduceCtorEq, List.mem_range'_1, true_and, and_true, and_false, false_and, Nat.reduceLT, Nat.reduceLeDiff, tyF]
          exact ⟨Fin.refl _ _ _ _, rfl⟩
        rintro _ ⟨w2', hf2, _, rfl⟩
        have el : IntKind.i64.wrap (((x :: rest).length : Int) - ((nrm ((s.take 1).2.take 7).2).length : Int)) = ((rest.length + 1 : Nat) : Int) - ((((s.take 1).2.take 7).2).rest.length : Int) := by
          rw [nrm_ok hbd, List.length_cons]
          have : (((s.take 1).2.take 7).2).rest.length ≤ rest.length := by rw [← hsl]; exact hrest
          exact w64 (by omega) (by omega)
        try simp (config := {maxSteps := 1000000}) only [↓zvD, zvU, ↓zqD, ↓up_apply, ↓hv_apply, ↓upO_some, ↓upO_none, ↓ev_tmp, ↓ev_const, ↓ev_func, ↓ev_global, init, Nat.reduceEqDiff, Nat.reduceAdd, Nat.reduceMul, Nat.reduceSub, ↓reduceIte, Int.reduceEq, Int.reduceNe, Nat.reduceLeDiff, one, Value.cells, Int.reduceLE, Int.reduceLT, Int.reduceToNat, add_mk, reduceCtorEq, List.mem_range'_1, true_and, and_true, and_false, false_and, Nat.reduceLT, Nat.reduceLeDiff, tyF, el]
        refine ⟨fun w3' hf _ => ?_, ?_⟩
        · obtain ⟨cs3, g3, g4⟩ := hf.some ⟨_, fz, by rw [SOp.len (opZ_fit 0), SOp.len (⟨rfl, padTo_len t8, rfl⟩ : SOp.Fit (opP 5 (decide (be (s.take 1).1 = 1)) (padTo 7 ((s.take 1).2.take 7).1)))]⟩
          refine st_all g3 (by simp [SOp.len (⟨rfl, padTo_len t8, rfl⟩ : SOp.Fit (opP 5 (decide (be (s.take 1).1 = 1)) (padTo 7 ((s.take 1).2.take 7).1)))]) (by rw [g4, SOp.len (⟨rfl, padTo_len t8, rfl⟩ : SOp.Fit (opP 5 (decide (be (s.take 1).1 = 1)) (padTo 7 ((s.take 1).2.take 7).1)))]) (fun u hu => SOp.one (opP 5 (decide (be (s.take 1).1 = 1)) (padTo 7 ((s.take 1).2.take 7).1)) (sl := .slice none (opP 5 (decide (be (s.take 1).1 = 1)) (padTo 7 ((s.take 1).2.take 7).1)).b.length 0) rfl u hu) fun w4' k1' k2' => ?_
          rw [List.toList_toArray] at k2'
          exact ⟨Fin.of_wr k1' g3 k2' (Nat.le_refl _), k2'⟩
        rintro _ ⟨w3', hf3, _, fz3⟩
        try simp (config := {maxSteps := 1000000}) only [↓zvD, zvU, ↓zqD, ↓up_apply, ↓hv_apply, ↓upO_some, ↓upO_none, ↓ev_tmp, ↓ev_const, ↓ev_func, ↓ev_global, init, Nat.reduceEqDiff, Nat.reduceAdd, Nat.reduceMul, Nat.reduceSub, ↓reduceIte, Int.reduceEq, Int.reduceNe, Nat.reduceLeDiff, one, Value.cells, Int.reduceLE, Int.reduceLT, Int.reduceToNat, add_mk, reduceCtorEq, List.mem_range'_1, true_and, and_true, and_false, false_and, Nat.reduceLT, Nat.reduceLeDiff, tyF, el]
        intro w4' hf4 hd4
        have fz4 : Blk w4' z 86 ((opP 5 (decide (be (s.take 1).1 = 1)) (padTo 7 ((s.take 1).2.take 7).1)).cells (.slice none (opP 5 (decide (be (s.take 1).1 = 1)) (padTo 7 ((s.take 1).2.take 7).1)).b.length 0)) := hd4 (7, fun w' => Blk w' z 86 ((opP 5 (decide (be (s.take 1).1 = 1)) (padTo 7 ((s.take 1).2.take 7).1)).cells (.slice none (opP 5 (decide (be (s.take 1).1 = 1)) (padTo 7 ((s.take 1).2.take 7).1)).b.length 0))) (by simp)
        have fzv := fz4.all_eq 49 (SOp.len (⟨rfl, padTo_len t8, rfl⟩ : SOp.Fit (opP 5 (decide (be (s.take 1).1 = 1)) (padTo 7 ((s.take 1).2.take 7).1))) _)
        try rw [stop1]
        try simp (config := {maxSteps := 1000000}) only [↓zvD, zvU, ↓up_apply, ↓hv_apply, ↓upO_some, ↓upO_none, ↓ev_tmp, ↓ev_const, ↓ev_func, ↓ev_global, init, Nat.reduceEqDiff, Nat.reduceAdd, Nat.reduceMul, Nat.reduceSub, ↓reduceIte, Int.reduceEq, Int.reduceNe, Nat.reduceLeDiff, one, Value.cells, Int.reduceLE, Int.reduceLT, Int.reduceToNat, add_mk, reduceCtorEq, List.mem_range'_1, true_and, and_true, and_false, false_and, Nat.reduceLT, Nat.reduceLeDiff, tyF, el]
        refine hK _ _ ?_
        clear hK K
        try simp (config := {maxSteps := 1000000}) only [↓zvD, zvU, ↓up_apply, ↓hv_apply, ↓upO_some, ↓upO_none, ↓ev_tmp, ↓ev_const, ↓ev_func, ↓ev_global, init, Nat.reduceEqDiff, Nat.reduceAdd, Nat.reduceMul, Nat.reduceSub, ↓reduceIte, Int.reduceEq, Int.reduceNe, Nat.reduceLeDiff, one, Value.cells, Int.reduceLE, Int.reduceLT, Int.reduceToNat, add_mk, reduceCtorEq, List.mem_range'_1, true_and, and_true, and_false, false_and, Nat.reduceLT, Nat.reduceLeDiff, tyF, p_nil]
        try simp only [fzv]
        try simp (config := {maxSteps := 1000000}) only [↓zvD, zvU, ↓up_apply, ↓hv_apply, ↓upO_some, ↓upO_none, ↓ev_tmp, ↓ev_const, ↓ev_func, ↓ev_global, init, Nat.reduceEqDiff, Nat.reduceAdd, Nat.reduceMul, Nat.reduceSub, ↓reduceIte, Int.reduceEq, Int.reduceNe, Nat.reduceLeDiff, one, Value.cells, Int.reduceLE, Int.reduceLT, Int.reduceToNat, add_mk, reduceCtorEq, List.mem_range'_1, true_and, and_true, and_false, false_and, Nat.reduceLT, Nat.reduceLeDiff, tyF]
        have hmw : More w w4' := Below.trans fm (by rw [hzz]; exact hf4.below)
        exact ⟨fun h => absurd (hbd.symm.trans h) (by simp), fun _ => ⟨none, 0, rfl, fA, (by simp [opP])⟩, hmw⟩
theorem one_7 (w0 w : World) (hw0 : More w0 w) (A : Option Addr) (x : UInt8) (rest : List UInt8) (c : Nat) (hA : Bs w0 A (x :: rest)) (hc : (x :: rest).length ≤ c) (hl : rest.length ≤ 1000000) (hkk : (x.toNat : Int) = 7) :
    Ret Try.prog 86 #[.slice A (x :: rest).length c] w (OneR w0 w (rest.length + 1) (takeM x.toNat ⟨rest, false⟩)) := by
  refine ret_of Try.func86 rfl (by kernel_rfl) (Nat.le_of_ble_eq_true (by kernel_rfl)) ?_
  obtain ⟨a, rfl⟩ := hA.isAt (by simp)
  have hx0 : ∀ w', More w w' → w'.cell? (a.add 0) = some (.int .u8 x.toNat) := fun w' h => by
    obtain ⟨b, hb, h0⟩ := (hA.more (hw0.trans h)) 0 (byteV x) rfl
    cases hb
    exact h0
  have hm1 := more_alloc w (.cells ((opZ 0).cells (.slice none 0 0)).toArray 86)
  have hb1 := Blk.new w 86 ((opZ 0).cells (.slice none 0 0)).toArray
  have s1 := size_alloc w (.cells ((opZ 0).cells (.slice none 0 0)).toArray 86)
  have c1 := hx0 _ hm1
  simp (config := {maxSteps := 1000000}) only [↓zvD, zvU, ↓up_apply, ↓hv_apply, ↓upO_some, ↓upO_none, ↓ev_tmp, ↓ev_const, ↓ev_func, ↓ev_global, init, Nat.reduceEqDiff, Nat.reduceAdd, Nat.reduceMul, Nat.reduceSub, ↓reduceIte, Int.reduceEq, Int.reduceNe, Nat.reduceLeDiff, one, Value.cells, Int.reduceLE, Int.reduceLT, Int.reduceToNat, add_mk, reduceCtorEq, List.mem_range'_1, true_and, and_true, and_false, false_and, Nat.reduceLT, Nat.reduceLeDiff, tyF, zerROp]
  generalize w.alloc (.cells ((opZ 0).cells (.slice none 0 0)).toArray 86) = w1 at hm1 hb1 s1 c1 ⊢
  refine ⟨by simp only [List.length_cons]; omega, ?_⟩
  simp (config := {maxSteps := 1000000}) only [↓zvD, zvU, ↓up_apply, ↓hv_apply, ↓upO_some, ↓upO_none, ↓ev_tmp, ↓ev_const, ↓ev_func, ↓ev_global, init, Nat.reduceEqDiff, Nat.reduceAdd, Nat.reduceMul, Nat.reduceSub, ↓reduceIte, Int.reduceEq, Int.reduceNe, Nat.reduceLeDiff, one, Value.cells, Int.reduceLE, Int.reduceLT, Int.reduceToNat, add_mk, reduceCtorEq, List.mem_range'_1, true_and, and_true, and_false, false_and, Nat.reduceLT, Nat.reduceLeDiff, tyF, c1, rop_build x.toNat w1, zerROp]
  have hm2 := more_alloc w1 (.cells ((opZ 0).cells (.slice none 0 0)).toArray 86)
  have hb2 := Blk.new w1 86 ((opZ 0).cells (.slice none 0 0)).toArray
  have s2 := size_alloc w1 (.cells ((opZ 0).cells (.slice none 0 0)).toArray 86)
  generalize w1.alloc (.cells ((opZ 0).cells (.slice none 0 0)).toArray 86) = w2 at hm2 hb2 s2 ⊢
  rw [List.toList_toArray] at hb1 hb2
  have hz2 := hb1.more hm2
  replace hm2 := hm1.trans hm2
  refine st_all hb2 (by simp [SOp.len (opZ_fit _)]) (SOp.len (opZ_fit 0) _) (fun u hu => SOp.one (opZ x.toNat) (sl := .slice none 0 0) rfl u hu) fun w3 j1 j2 => ?_
  rw [List.toList_toArray] at j2
  have hz3 := j1.blk hz2 (by omega)
  have s3 := j1.size
  have hm3 : More w w3 := j1.below hm2 (by omega)
  have g1 : (1 : Nat) ≤ (x :: rest).length := by simp
  simp (config := {maxSteps := 1000000}) only [↓zvD, zvU, ↓up_apply, ↓hv_apply, ↓upO_some, ↓upO_none, ↓ev_tmp, ↓ev_const, ↓ev_func, ↓ev_global, init, Nat.reduceEqDiff, Nat.reduceAdd, Nat.reduceMul, Nat.reduceSub, ↓reduceIte, Int.reduceEq, Int.reduceNe, Nat.reduceLeDiff, one, Value.cells, Int.reduceLE, Int.reduceLT, Int.reduceToNat, add_mk, reduceCtorEq, List.mem_range'_1, true_and, and_true, and_false, false_and, Nat.reduceLT, Nat.reduceLeDiff, tyF, rin_build _ _ _ w3, zer51, g1]
  have hm4 := more_alloc w3 (.cells #[.slice none 0 0, .bool false] 51)
  have hb4 := Blk.new w3 51 #[.slice none 0 0, .bool false]
  have s4 := size_alloc w3 (.cells #[.slice none 0 0, .bool false] 51)
  generalize w3.alloc (.cells #[.slice none 0 0, .bool false] 51) = w4 at hm4 hb4 s4 ⊢
  refine st_all hb4 rfl rfl (by intro u hu; simp at hu; rcases hu with rfl | rfl <;> rfl) fun w5 k1 k2 => ?_
  rw [List.toList_toArray] at k2
  have hz5 := k1.blk (hz3.more hm4) (by omega)
  have hp5 := k1.blk (j2.more hm4) (by omega)
  have s5 := k1.size
  have hm5 : More w w5 := k1.below (hm3.trans hm4) (by omega)
  have hRI5 : RIs w0 ⟨rest, false⟩ (RV.adv (some a) c 1 1) (c - 1) := by
    refine ⟨?_, by rw [nrm_ok rfl]; simp at hc; show rest.length ≤ _; omega⟩
    rw [nrm_ok rfl]
    exact Cs.advB (k := 1) hA hc
  have hR5 : Blk w5 w3.heap.size 51 [.slice (RV.adv (some a) c 1 1) (nrm ⟨rest, false⟩).length (c - 1), .bool (InM.mk rest false).bad] := k2
  have hsl : (InM.mk rest false).rest.length = rest.length := rfl
  have hkx : (x.toNat : Int) = x.toNat := rfl
  generalize hAr : RV.adv (some a) c 1 1 = Ar at hRI5 hR5
  generalize hcr : c - 1 = cr at hRI5 hR5
  generalize hss : InM.mk rest false = s at hRI5 hR5 hsl ⊢
  generalize hzz : w.heap.size = z at *
  generalize hpp : w1.heap.size = p at *
  generalize hrr : w3.heap.size = r at *
  have hrest := takeM_rest x.toNat s
  have kc := hp5.cell 0
  have kc : w5.cell? ⟨p, 0, none⟩ = some (.int .u8 x.toNat) := by rw [hp5.cell]; rfl
  generalize hk : (x.toNat : Int) = k at *
  unfold takeM at hrest ⊢
  have hv5 := hR5.all_eq 2 rfl
  subst hkk
  rw [if_neg (show ¬ ((7 : Int) = 1) by decide), if_neg (show ¬ ((7 : Int) = 2) by decide), if_neg (show ¬ ((7 : Int) = 4) by decide), if_neg (show ¬ ((7 : Int) = 5) by decide), if_pos rfl] at hrest ⊢
  simp (config := {maxSteps := 1000000}) only [↓zvN, zvU, ↓up_apply, ↓hv_apply, ↓upO_some, ↓upO_none, ↓ev_tmp, ↓ev_const, ↓ev_func, ↓ev_global, init, Nat.reduceEqDiff, Nat.reduceAdd, Nat.reduceMul, Nat.reduceSub, ↓reduceIte, Int.reduceEq, Int.reduceNe, Nat.reduceLeDiff, one, Value.cells, Int.reduceLE, Int.reduceLT, Int.reduceToNat, add_mk, reduceCtorEq, List.mem_range'_1, true_and, and_true, and_false, false_and, Nat.reduceLT, Nat.reduceLeDiff, tyF, kc, hv5]
  refine call_ok Try.call34 (refI_raw w0 _ s _ _ 160 hRI5 (hw0.trans hm5)) ?_
  rintro _ w6 ⟨A6, c6, A7, c7, rfl, hB6, hle6, hRI7, hm6⟩
  simp (config := {maxSteps := 1000000}) only [↓zvN, zvU, ↓up_apply, ↓hv_apply, ↓upO_some, ↓upO_none, ↓ev_tmp, ↓ev_const, ↓ev_func, ↓ev_global, init, Nat.reduceEqDiff, Nat.reduceAdd, Nat.reduceMul, Nat.reduceSub, ↓reduceIte, Int.reduceEq, Int.reduceNe, Nat.reduceLeDiff, one, Value.cells, Int.reduceLE, Int.reduceLT, Int.reduceToNat, add_mk, reduceCtorEq, List.mem_range'_1, true_and, and_true, and_false, false_and, Nat.reduceLT, Nat.reduceLeDiff, tyF]
  refine st_all (hR5.more hm6) rfl rfl (rin_one A7 (nrm (s.take 160).2).length c7 ((s.take 160).2).bad) fun w7 i1 hR7 => ?_
  rw [List.toList_toArray] at hR7
  rw [s2_undef]
  have hp7 := i1.blk (hp5.more hm6) (by omega)
  have hz7 := i1.blk (hz5.more hm6) (by omega)
  have hm7 : More w w7 := i1.below (hm5.trans hm6) (by omega)
  try simp (config := {maxSteps := 1000000}) only [↓zvN, zvU, ↓up_apply, ↓hv_apply, ↓upO_some, ↓upO_none, ↓ev_tmp, ↓ev_const, ↓ev_func, ↓ev_global, init, Nat.reduceEqDiff, Nat.reduceAdd, Nat.reduceMul, Nat.reduceSub, ↓reduceIte, Int.reduceEq, Int.reduceNe, Nat.reduceLeDiff, one, Value.cells, Int.reduceLE, Int.reduceLT, Int.reduceToNat, add_mk, reduceCtorEq, List.mem_range'_1, true_and, and_true, and_false, false_and, Nat.reduceLT, Nat.reduceLeDiff, tyF]
  refine call_ok Try.call111 (ref_decode26 w7 A6 _ c6 (hB6.more (hw0.trans hm7)) hle6) ?_
  rintro _ w8 ⟨rfl, hm8⟩
  have dl := decC_len (s.take 160).1
  generalize hdd : decC (s.take 160).1 = dd at *
  simp (config := {maxSteps := 1000000}) only [↓zvN, zvU, ↓up_apply, ↓hv_apply, ↓upO_some, ↓upO_none, ↓ev_tmp, ↓ev_const, ↓ev_func, ↓ev_global, init, Nat.reduceEqDiff, Nat.reduceAdd, Nat.reduceMul, Nat.reduceSub, ↓reduceIte, Int.reduceEq, Int.reduceNe, Nat.reduceLeDiff, one, Value.cells, Int.reduceLE, Int.reduceLT, Int.reduceToNat, add_mk, reduceCtorEq, List.mem_range'_1, true_and, and_true, and_false, false_and, Nat.reduceLT, Nat.reduceLeDiff, tyF]
  refine st_row (hp7.more hm8) (by simp [ints_len, dl]) (by rw [SOp.len (opZ_fit 7)]; omega) (ints_one _) fun w9 i2 i3 => ?_
  rw [s2_undef]
  rw [List.toList_toArray, SOp.setCfg (opZ_fit 7) _ dl] at i3
  have hp9 : Blk w9 p 86 ((opC 7 dd.1).cells (.slice none 0 0)) := i3
  have hz9 := i2.blk (hz7.more hm8) (by omega)
  have hR9 := i2.blk (hR7.more hm8) (by omega)
  have hm9 : More w w9 := i2.below (hm7.trans hm8) (by omega)
  have cb0 := hR9.cell 1
  simp only [List.getElem?_cons_succ, List.getElem?_cons_zero] at cb0
  by_cases he : dd.2 = 0
  · rw [if_pos he] at hrest ⊢
    cases hby : (s.take 160).2.bad with
    | true =>
      rw [hby] at cb0
      simp (config := {maxSteps := 1000000}) only [↓zvN, zvU, ↓up_apply, ↓hv_apply, ↓upO_some, ↓upO_none, ↓ev_tmp, ↓ev_const, ↓ev_func, ↓ev_global, init, Nat.reduceEqDiff, Nat.reduceAdd, Nat.reduceMul, Nat.reduceSub, ↓reduceIte, Int.reduceEq, Int.reduceNe, Nat.reduceLeDiff, one, Value.cells, Int.reduceLE, Int.reduceLT, Int.reduceToNat, add_mk, reduceCtorEq, List.mem_range'_1, true_and, and_true, and_false, false_and, Nat.reduceLT, Nat.reduceLeDiff, tyF, cb0, he]
      refine st_cell hR9 (by simp) rfl fun w12 i5 i6 => ?_
      rw [s2_undef]
      have fz := (i5.blk hz9 (by omega))
      have fm := (i5.below hm9 (by omega))
      have cb : _ = some (Value.bool true) := (i6.cell 1)
      try simp (config := {maxSteps := 1000000}) only [↓zvD, zvU, ↓up_apply, ↓hv_apply, ↓upO_some, ↓upO_none, ↓ev_tmp, ↓ev_const, ↓ev_func, ↓ev_global, init, Nat.reduceEqDiff, Nat.reduceAdd, Nat.reduceMul, Nat.reduceSub, ↓reduceIte, Int.reduceEq, Int.reduceNe, Nat.reduceLeDiff, one, Value.cells, Int.reduceLE, Int.reduceLT, Int.reduceToNat, add_mk, reduceCtorEq, List.mem_range'_1, true_and, and_true, and_false, false_and, Nat.reduceLT, Nat.reduceLeDiff, tyF]
      simp only [cb]
      simp (config := {maxSteps := 1000000}) only [↓zvD, zvU, ↓up_apply, ↓hv_apply, ↓upO_some, ↓upO_none, ↓ev_tmp, ↓ev_const, ↓ev_func, ↓ev_global, init, Nat.reduceEqDiff, Nat.reduceAdd, Nat.reduceMul, Nat.reduceSub, ↓reduceIte, Int.reduceEq, Int.reduceNe, Nat.reduceLeDiff, one, Value.cells, Int.reduceLE, Int.reduceLT, Int.reduceToNat, add_mk, reduceCtorEq, List.mem_range'_1, true_and, and_true, and_false, false_and, Nat.reduceLT, Nat.reduceLeDiff, tyF]
      rw [rop_build0 w]
      try simp (config := {maxSteps := 1000000}) only [↓zvD, zvU, ↓up_apply, ↓hv_apply, ↓upO_some, ↓upO_none, ↓ev_tmp, ↓ev_const, ↓ev_func, ↓ev_global, init, Nat.reduceEqDiff, Nat.reduceAdd, Nat.reduceMul, Nat.reduceSub, ↓reduceIte, Int.reduceEq, Int.reduceNe, Nat.reduceLeDiff, one, Value.cells, Int.reduceLE, Int.reduceLT, Int.reduceToNat, add_mk, reduceCtorEq, List.mem_range'_1, true_and, and_true, and_false, false_and, Nat.reduceLT, Nat.reduceLeDiff, tyF]
      rw [st_same_eq fz (SOp.len (opZ_fit 0) _) (SOp.one (opZ 0) (sl := .slice none 0 0) rfl)]
      have fzv := fz.all_eq 49 (SOp.len (opZ_fit 0) _)
      try simp (config := {maxSteps := 1000000}) only [↓zvD, zvU, ↓up_apply, ↓hv_apply, ↓upO_some, ↓upO_none, ↓ev_tmp, ↓ev_const, ↓ev_func, ↓ev_global, init, Nat.reduceEqDiff, Nat.reduceAdd, Nat.reduceMul, Nat.reduceSub, ↓reduceIte, Int.reduceEq, Int.reduceNe, Nat.reduceLeDiff, one, Value.cells, Int.reduceLE, Int.reduceLT, Int.reduceToNat, add_mk, reduceCtorEq, List.mem_range'_1, true_and, and_true, and_false, false_and, Nat.reduceLT, Nat.reduceLeDiff, tyF]
      try simp only [fzv]
      try simp (config := {maxSteps := 1000000}) only [↓zvD, zvU, ↓up_apply, ↓hv_apply, ↓upO_some, ↓upO_none, ↓ev_tmp, ↓ev_const, ↓ev_func, ↓ev_global, init, Nat.reduceEqDiff, Nat.reduceAdd, Nat.reduceMul, Nat.reduceSub, ↓reduceIte, Int.reduceEq, Int.reduceNe, Nat.reduceLeDiff, one, Value.cells, Int.reduceLE, Int.reduceLT, Int.reduceToNat, add_mk, reduceCtorEq, List.mem_range'_1, true_and, and_true, and_false, false_and, Nat.reduceLT, Nat.reduceLeDiff, tyF]
      exact ⟨fun _ => rfl, fun h => absurd ((hby).symm.trans h) (by simp), fm⟩
    | false =>
      rw [hby] at cb0
      simp (config := {maxSteps := 1000000}) only [↓zvN, zvU, ↓up_apply, ↓hv_apply, ↓upO_some, ↓upO_none, ↓ev_tmp, ↓ev_const, ↓ev_func, ↓ev_global, init, Nat.reduceEqDiff, Nat.reduceAdd, Nat.reduceMul, Nat.reduceSub, ↓reduceIte, Int.reduceEq, Int.reduceNe, Nat.reduceLeDiff, one, Value.cells, Int.reduceLE, Int.reduceLT, Int.reduceToNat, add_mk, reduceCtorEq, List.mem_range'_1, true_and, and_true, and_false, false_and, Nat.reduceLT, Nat.reduceLeDiff, tyF, cb0, he]
      refine st_cell hR9 (by simp) rfl fun w12 i5 i6 => ?_
      rw [s2_undef]
      have hR12 : Blk w12 r 51 [.slice A7 (nrm (s.take 160).2).length c7, .bool (s.take 160).2.bad] := by rw [hby]; exact i6
      have fz := (i5.blk hz9 (by omega))
      have fp := (i5.blk hp9 (by omega))
      have fR := hR12
      have fm := (i5.below hm9 (by omega))
      have fA : Bs w0 (none : Option Addr) (opC 7 dd.1).b := (Cs.nil w0 _)
      cases hbd : ((s.take 160).2).bad with
      | true =>
        have cb := fR.cell 1
        simp only [hbd, List.getElem?_cons_succ, List.getElem?_cons_zero] at cb
        try simp (config := {maxSteps := 1000000}) only [↓zvD, zvU, ↓up_apply, ↓hv_apply, ↓upO_some, ↓upO_none, ↓ev_tmp, ↓ev_const, ↓ev_func, ↓ev_global, init, Nat.reduceEqDiff, Nat.reduceAdd, Nat.reduceMul, Nat.reduceSub, ↓reduceIte, Int.reduceEq, Int.reduceNe, Nat.reduceLeDiff, one, Value.cells, Int.reduceLE, Int.reduceLT, Int.reduceToNat, add_mk, reduceCtorEq, List.mem_range'_1, true_and, and_true, and_false, false_and, Nat.reduceLT, Nat.reduceLeDiff, tyF]
        simp only [cb]
        simp (config := {maxSteps := 1000000}) only [↓zvD, zvU, ↓up_apply, ↓hv_apply, ↓upO_some, ↓upO_none, ↓ev_tmp, ↓ev_const, ↓ev_func, ↓ev_global, init, Nat.reduceEqDiff, Nat.reduceAdd, Nat.reduceMul, Nat.reduceSub, ↓reduceIte, Int.reduceEq, Int.reduceNe, Nat.reduceLeDiff, one, Value.cells, Int.reduceLE, Int.reduceLT, Int.reduceToNat, add_mk, reduceCtorEq, List.mem_range'_1, true_and, and_true, and_false, false_and, Nat.reduceLT, Nat.reduceLeDiff, tyF]
        rw [rop_build0 w]
        try simp (config := {maxSteps := 1000000}) only [↓zvD, zvU, ↓up_apply, ↓hv_apply, ↓upO_some, ↓upO_none, ↓ev_tmp, ↓ev_const, ↓ev_func, ↓ev_global, init, Nat.reduceEqDiff, Nat.reduceAdd, Nat.reduceMul, Nat.reduceSub, ↓reduceIte, Int.reduceEq, Int.reduceNe, Nat.reduceLeDiff, one, Value.cells, Int.reduceLE, Int.reduceLT, Int.reduceToNat, add_mk, reduceCtorEq, List.mem_range'_1, true_and, and_true, and_false, false_and, Nat.reduceLT, Nat.reduceLeDiff, tyF]
        rw [st_same_eq fz (SOp.len (opZ_fit 0) _) (SOp.one (opZ 0) (sl := .slice none 0 0) rfl)]
        have fzv := fz.all_eq 49 (SOp.len (opZ_fit 0) _)
        try simp (config := {maxSteps := 1000000}) only [↓zvD, zvU, ↓up_apply, ↓hv_apply, ↓upO_some, ↓upO_none, ↓ev_tmp, ↓ev_const, ↓ev_func, ↓ev_global, init, Nat.reduceEqDiff, Nat.reduceAdd, Nat.reduceMul, Nat.reduceSub, ↓reduceIte, Int.reduceEq, Int.reduceNe, Nat.reduceLeDiff, one, Value.cells, Int.reduceLE, Int.reduceLT, Int.reduceToNat, add_mk, reduceCtorEq, List.mem_range'_1, true_and, and_true, and_false, false_and, Nat.reduceLT, Nat.reduceLeDiff, tyF]
        try simp only [fzv]
        try simp (config := {maxSteps := 1000000}) only [↓zvD, zvU, ↓up_apply, ↓hv_apply, ↓upO_some, ↓upO_none, ↓ev_tmp, ↓ev_const, ↓ev_func, ↓ev_global, init, Nat.reduceEqDiff, Nat.reduceAdd, Nat.reduceMul, Nat.reduceSub, ↓reduceIte, Int.reduceEq, Int.reduceNe, Nat.reduceLeDiff, one, Value.cells, Int.reduceLE, Int.reduceLT, Int.reduceToNat, add_mk, reduceCtorEq, List.mem_range'_1, true_and, and_true, and_false, false_and, Nat.reduceLT, Nat.reduceLeDiff, tyF]
        exact ⟨fun _ => rfl, fun h => absurd (hbd.symm.trans h) (by simp), fm⟩
      | false =>
        have cb := fR.cell 1
        simp only [hbd, List.getElem?_cons_succ, List.getElem?_cons_zero] at cb
        have ca := fR.cell 0
        simp only [List.getElem?_cons_zero] at ca
        have fps := fm.size
        try simp (config := {maxSteps := 1000000}) only [↓zvD, zvU, ↓up_apply, ↓hv_apply, ↓upO_some, ↓upO_none, ↓ev_tmp, ↓ev_const, ↓ev_func, ↓ev_global, init, Nat.reduceEqDiff, Nat.reduceAdd, Nat.reduceMul, Nat.reduceSub, ↓reduceIte, Int.reduceEq, Int.reduceNe, Nat.reduceLeDiff, one, Value.cells, Int.reduceLE, Int.reduceLT, Int.reduceToNat, add_mk, reduceCtorEq, List.mem_range'_1, true_and, and_true, and_false, false_and, Nat.reduceLT, Nat.reduceLeDiff, tyF]
        simp only [cb]
        try simp (config := {maxSteps := 1000000}) only [↓zvD, zvU, ↓up_apply, ↓hv_apply, ↓upO_some, ↓upO_none, ↓ev_tmp, ↓ev_const, ↓ev_func, ↓ev_global, init, Nat.reduceEqDiff, Nat.reduceAdd, Nat.reduceMul, Nat.reduceSub, ↓reduceIte, Int.reduceEq, Int.reduceNe, Nat.reduceLeDiff, one, Value.cells, Int.reduceLE, Int.reduceLT, Int.reduceToNat, add_mk, reduceCtorEq, List.mem_range'_1, true_and, and_true, and_false, false_and, Nat.reduceLT, Nat.reduceLeDiff, tyF]
        refine draw_name fun K hK => ?_
        refine draw_finB z (by omega) 86 ((opC 7 dd.1).cells (.slice none (opC 7 dd.1).b.length 0)) 8 [[], [], [1], [], [3], [3, 4], [1, 2, 3, 4, 5], [0], [0, 1, 2, 3, 4, 5, 6, 7]] [(0, RV.IsV (.agg ((opC 7 dd.1).cells (.slice none (opC 7 dd.1).b.length 0)).toArray)), (4, RV.IsV (.slice A7 (nrm (s.take 160).2).length c7)), (7, fun _ w' => Blk w' z 86 ((opC 7 dd.1).cells (.slice none (opC 7 dd.1).b.length 0)))] mixed (by kernel_rfl) (by kernel_rfl) ?_ ?_
        · intro y hy v' a' b' hab hya
          simp only [List.mem_cons, List.not_mem_nil, or_false] at hy
          rcases hy with rfl | rfl | rfl
          · exact hya
          · exact hya
          · exact hab.done hya
        try simp (config := {maxSteps := 1000000}) only [↓zvD, zvU, ↓zqD, ↓up_apply, ↓hv_apply, ↓upO_some, ↓upO_none, ↓ev_tmp, ↓ev_const, ↓ev_func, ↓ev_global, init, Nat.reduceEqDiff, Nat.reduceAdd, Nat.reduceMul, Nat.reduceSub, ↓reduceIte, Int.reduceEq, Int.reduceNe, Nat.reduceLeDiff, one, Value.cells, Int.reduceLE, Int.reduceLT, Int.reduceToNat, add_mk, reduceCtorEq, List.mem_range'_1, true_and, and_true, and_false, false_and, Nat.reduceLT, Nat.reduceLeDiff, tyF]
        refine ⟨fun w1' hf => ?_, ?_⟩
        · have q1 := (hf.done fp).all_eq 49 (SOp.len (⟨rfl, rfl, dl⟩ : SOp.Fit (opC 7 dd.1)) _)
          simp only [q1]
          try simp (config := {maxSteps := 1000000}) only [↓zvD, zvU, ↓zqD, ↓up_apply, ↓hv_apply, ↓upO_some, ↓upO_none, ↓ev_tmp, ↓ev_const, ↓ev_func, ↓ev_global, init, Nat.reduceEqDiff, Nat.reduceAdd, Nat.reduceMul, Nat.reduceSub, ↓reduceIte, Int.reduceEq, Int.reduceNe, Nat.reduceLeDiff, one, Value.cells, Int.reduceLE, Int.reduceLT, Int.reduceToNat, add_mk, reduceCtorEq, List.mem_range'_1, true_and, and_true, and_false, false_and, Nat.reduceLT, Nat.reduceLeDiff, tyF]
          exact ⟨Fin.refl _ _ _ _, rfl⟩
        rintro _ ⟨w1', hf1, rfl⟩
        try simp (config := {maxSteps := 1000000}) only [↓zvD, zvU, ↓zqD, ↓up_apply, ↓hv_apply, ↓upO_some, ↓upO_none, ↓ev_tmp, ↓ev_const, ↓ev_func, ↓ev_global, init, Nat.reduceEqDiff, Nat.reduceAdd, Nat.reduceMul, Nat.reduceSub, ↓reduceIte, Int.reduceEq, Int.reduceNe, Nat.reduceLeDiff, one, Value.cells, Int.reduceLE, Int.reduceLT, Int.reduceToNat, add_mk, reduceCtorEq, List.mem_range'_1, true_and, and_true, and_false, false_and, Nat.reduceLT, Nat.reduceLeDiff, tyF]
        refine ⟨fun w1'' hf => ?_, ?_⟩
        · have q1 := (hf.blk _ _ _ (by decide) fR).cell 0
          simp only [List.getElem?_cons_zero] at q1
          simp only [q1]
          try simp (config := {maxSteps := 1000000}) only [↓zvD, zvU, ↓zqD, ↓up_apply, ↓hv_apply, ↓upO_some, ↓upO_none, ↓ev_tmp, ↓ev_const, ↓ev_func, ↓ev_global, init, Nat.reduceEqDiff, Nat.reduceAdd, Nat.reduceMul, Nat.reduceSub, ↓reduceIte, Int.reduceEq, Int.reduceNe, Nat.reduceLeDiff, one, Value.cells, Int.reduceLE, Int.reduceLT, Int.reduceToNat, add_mk, reduceCtorEq, List.mem_range'_1, true_and, and_true, and_false, false_and, Nat.reduceLT, Nat.reduceLeDiff, tyF]
          exact ⟨Fin.refl _ _ _ _, rfl⟩
        rintro _ ⟨w2', hf2, _, rfl⟩
        have el : IntKind.i64.wrap (((x :: rest).length : Int) - ((nrm (s.take 160).2).length : Int)) = ((rest.length + 1 : Nat) : Int) - (((s.take 160).2).rest.length : Int) := by
          rw [nrm_ok hbd, List.length_cons]
          have : ((s.take 160).2).rest.length ≤ rest.length := by rw [← hsl]; exact hrest
          exact w64 (by omega) (by omega)
        try simp (config := {maxSteps := 1000000}) only [↓zvD, zvU, ↓zqD, ↓up_apply, ↓hv_apply, ↓upO_some, ↓upO_none, ↓ev_tmp, ↓ev_const, ↓ev_func, ↓ev_global, init, Nat.reduceEqDiff, Nat.reduceAdd, Nat.reduceMul, Nat.reduceSub, ↓reduceIte, Int.reduceEq, Int.reduceNe, Nat.reduceLeDiff, one, Value.cells, Int.reduceLE, Int.reduceLT, Int.reduceToNat, add_mk, reduceCtorEq, List.mem_range'_1, true_and, and_true, and_false, false_and, Nat.reduceLT, Nat.reduceLeDiff, tyF, el]
        refine ⟨fun w3' hf _ => ?_, ?_⟩
        · obtain ⟨cs3, g3, g4⟩ := hf.some ⟨_, fz, by rw [SOp.len (opZ_fit 0), SOp.len (⟨rfl, rfl, dl⟩ : SOp.Fit (opC 7 dd.1))]⟩
          refine st_all g3 (by simp [SOp.len (⟨rfl, rfl, dl⟩ : SOp.Fit (opC 7 dd.1))]) (by rw [g4, SOp.len (⟨rfl, rfl, dl⟩ : SOp.Fit (opC 7 dd.1))]) (fun u hu => SOp.one (opC 7 dd.1) (sl := .slice none (opC 7 dd.1).b.length 0) rfl u hu) fun w4' k1' k2' => ?_
          rw [List.toList_toArray] at k2'
          exact ⟨Fin.of_wr k1' g3 k2' (Nat.le_refl _), k2'⟩
        rintro _ ⟨w3', hf3, _, fz3⟩
        try simp (config := {maxSteps := 1000000}) only [↓zvD, zvU, ↓zqD, ↓up_apply, ↓hv_apply, ↓upO_some, ↓upO_none, ↓ev_tmp, ↓ev_const, ↓ev_func, ↓ev_global, init, Nat.reduceEqDiff, Nat.reduceAdd, Nat.reduceMul, Nat.reduceSub, ↓reduceIte, Int.reduceEq, Int.reduceNe, Nat.reduceLeDiff, one, Value.cells, Int.reduceLE, Int.reduceLT, Int.reduceToNat, add_mk, reduceCtorEq, List.mem_range'_1, true_and, and_true, and_false, false_and, Nat.reduceLT, Nat.reduceLeDiff, tyF, el]
        intro w4' hf4 hd4
        have fz4 : Blk w4' z 86 ((opC 7 dd.1).cells (.slice none (opC 7 dd.1).b.length 0)) := hd4 (7, fun w' => Blk w' z 86 ((opC 7 dd.1).cells (.slice none (opC 7 dd.1).b.length 0))) (by simp)
        have fzv := fz4.all_eq 49 (SOp.len (⟨rfl, rfl, dl⟩ : SOp.Fit (opC 7 dd.1)) _)
        try rw [stop1]
        try simp (config := {maxSteps := 1000000}) only [↓zvD, zvU, ↓up_apply, ↓hv_apply, ↓upO_some, ↓upO_none, ↓ev_tmp, ↓ev_const, ↓ev_func, ↓ev_global, init, Nat.reduceEqDiff, Nat.reduceAdd, Nat.reduceMul, Nat.reduceSub, ↓reduceIte, Int.reduceEq, Int.reduceNe, Nat.reduceLeDiff, one, Value.cells, Int.reduceLE, Int.reduceLT, Int.reduceToNat, add_mk, reduceCtorEq, List.mem_range'_1, true_and, and_true, and_false, false_and, Nat.reduceLT, Nat.reduceLeDiff, tyF, el]
        refine hK _ _ ?_
        clear hK K
        try simp (config := {maxSteps := 1000000}) only [↓zvD, zvU, ↓up_apply, ↓hv_apply, ↓upO_some, ↓upO_none, ↓ev_tmp, ↓ev_const, ↓ev_func, ↓ev_global, init, Nat.reduceEqDiff, Nat.reduceAdd, Nat.reduceMul, Nat.reduceSub, ↓reduceIte, Int.reduceEq, Int.reduceNe, Nat.reduceLeDiff, one, Value.cells, Int.reduceLE, Int.reduceLT, Int.reduceToNat, add_mk, reduceCtorEq, List.mem_range'_1, true_and, and_true, and_false, false_and, Nat.reduceLT, Nat.reduceLeDiff, tyF, p_nil]
        try simp only [fzv]
        try simp (config := {maxSteps := 1000000}) only [↓zvD, zvU, ↓up_apply, ↓hv_apply, ↓upO_some, ↓upO_none, ↓ev_tmp, ↓ev_const, ↓ev_func, ↓ev_global, init, Nat.reduceEqDiff, Nat.reduceAdd, Nat.reduceMul, Nat.reduceSub, ↓reduceIte, Int.reduceEq, Int.reduceNe, Nat.reduceLeDiff, one, Value.cells, Int.reduceLE, Int.reduceLT, Int.reduceToNat, add_mk, reduceCtorEq, List.mem_range'_1, true_and, and_true, and_false, false_and, Nat.reduceLT, Nat.reduceLeDiff, tyF]
        have hmw : More w w4' := Below.trans fm (by rw [hzz]; exact hf4.below)
        exact ⟨fun h => absurd (hbd.symm.trans h) (by simp), fun _ => ⟨none, 0, rfl, fA, (by simp [opC])⟩, hmw⟩
  · rw [if_neg he]
    cases hby : (s.take 160).2.bad with
    | true =>
      rw [hby] at cb0
      simp (config := {maxSteps := 1000000}) only [↓zvN, zvU, ↓up_apply, ↓hv_apply, ↓upO_some, ↓upO_none, ↓ev_tmp, ↓ev_const, ↓ev_func, ↓ev_global, init, Nat.reduceEqDiff, Nat.reduceAdd, Nat.reduceMul, Nat.reduceSub, ↓reduceIte, Int.reduceEq, Int.reduceNe, Nat.reduceLeDiff, one, Value.cells, Int.reduceLE, Int.reduceLT, Int.reduceToNat, add_mk, reduceCtorEq, List.mem_range'_1, true_and, and_true, and_false, false_and, Nat.reduceLT, Nat.reduceLeDiff, tyF, cb0, he]
      refine st_cell hR9 (by simp) rfl fun w12 i5 i6 => ?_
      rw [s2_undef]
      have fz := (i5.blk hz9 (by omega))
      have fm := (i5.below hm9 (by omega))
      have cb : _ = some (Value.bool true) := (i6.cell 1)
      try simp (config := {maxSteps := 1000000}) only [↓zvD, zvU, ↓up_apply, ↓hv_apply, ↓upO_some, ↓upO_none, ↓ev_tmp, ↓ev_const, ↓ev_func, ↓ev_global, init, Nat.reduceEqDiff, Nat.reduceAdd, Nat.reduceMul, Nat.reduceSub, ↓reduceIte, Int.reduceEq, Int.reduceNe, Nat.reduceLeDiff, one, Value.cells, Int.reduceLE, Int.reduceLT, Int.reduceToNat, add_mk, reduceCtorEq, List.mem_range'_1, true_and, and_true, and_false, false_and, Nat.reduceLT, Nat.reduceLeDiff, tyF]
      simp only [cb]
      simp (config := {maxSteps := 1000000}) only [↓zvD, zvU, ↓up_apply, ↓hv_apply, ↓upO_some, ↓upO_none, ↓ev_tmp, ↓ev_const, ↓ev_func, ↓ev_global, init, Nat.reduceEqDiff, Nat.reduceAdd, Nat.reduceMul, Nat.reduceSub, ↓reduceIte, Int.reduceEq, Int.reduceNe, Nat.reduceLeDiff, one, Value.cells, Int.reduceLE, Int.reduceLT, Int.reduceToNat, add_mk, reduceCtorEq, List.mem_range'_1, true_and, and_true, and_false, false_and, Nat.reduceLT, Nat.reduceLeDiff, tyF]
      rw [rop_build0 w]
      try simp (config := {maxSteps := 1000000}) only [↓zvD, zvU, ↓up_apply, ↓hv_apply, ↓upO_some, ↓upO_none, ↓ev_tmp, ↓ev_const, ↓ev_func, ↓ev_global, init, Nat.reduceEqDiff, Nat.reduceAdd, Nat.reduceMul, Nat.reduceSub, ↓reduceIte, Int.reduceEq, Int.reduceNe, Nat.reduceLeDiff, one, Value.cells, Int.reduceLE, Int.reduceLT, Int.reduceToNat, add_mk, reduceCtorEq, List.mem_range'_1, true_and, and_true, and_false, false_and, Nat.reduceLT, Nat.reduceLeDiff, tyF]
      rw [st_same_eq fz (SOp.len (opZ_fit 0) _) (SOp.one (opZ 0) (sl := .slice none 0 0) rfl)]
      have fzv := fz.all_eq 49 (SOp.len (opZ_fit 0) _)
      try simp (config := {maxSteps := 1000000}) only [↓zvD, zvU, ↓up_apply, ↓hv_apply, ↓upO_some, ↓upO_none, ↓ev_tmp, ↓ev_const, ↓ev_func, ↓ev_global, init, Nat.reduceEqDiff, Nat.reduceAdd, Nat.reduceMul, Nat.reduceSub, ↓reduceIte, Int.reduceEq, Int.reduceNe, Nat.reduceLeDiff, one, Value.cells, Int.reduceLE, Int.reduceLT, Int.reduceToNat, add_mk, reduceCtorEq, List.mem_range'_1, true_and, and_true, and_false, false_and, Nat.reduceLT, Nat.reduceLeDiff, tyF]
      try simp only [fzv]
      try simp (config := {maxSteps := 1000000}) only [↓zvD, zvU, ↓up_apply, ↓hv_apply, ↓upO_some, ↓upO_none, ↓ev_tmp, ↓ev_const, ↓ev_func, ↓ev_global, init, Nat.reduceEqDiff, Nat.reduceAdd, Nat.reduceMul, Nat.reduceSub, ↓reduceIte, Int.reduceEq, Int.reduceNe, Nat.reduceLeDiff, one, Value.cells, Int.reduceLE, Int.reduceLT, Int.reduceToNat, add_mk, reduceCtorEq, List.mem_range'_1, true_and, and_true, and_false, false_and, Nat.reduceLT, Nat.reduceLeDiff, tyF]
      exact ⟨fun _ => rfl, fun h => absurd (((show (InM.mk (s.take 160).2.rest true).bad = true from rfl)).symm.trans h) (by simp), fm⟩
    | false =>
      rw [hby] at cb0
      simp (config := {maxSteps := 1000000}) only [↓zvN, zvU, ↓up_apply, ↓hv_apply, ↓upO_some, ↓upO_none, ↓ev_tmp, ↓ev_const, ↓ev_func, ↓ev_global, init, Nat.reduceEqDiff, Nat.reduceAdd, Nat.reduceMul, Nat.reduceSub, ↓reduceIte, Int.reduceEq, Int.reduceNe, Nat.reduceLeDiff, one, Value.cells, Int.reduceLE, Int.reduceLT, Int.reduceToNat, add_mk, reduceCtorEq, List.mem_range'_1, true_and, and_true, and_false, false_and, Nat.reduceLT, Nat.reduceLeDiff, tyF, cb0, he]
      refine st_cell hR9 (by simp) rfl fun w12 i5 i6 => ?_
      rw [s2_undef]
      have fz := (i5.blk hz9 (by omega))
      have fm := (i5.below hm9 (by omega))
      have cb : _ = some (Value.bool true) := (i6.cell 1)
      try simp (config := {maxSteps := 1000000}) only [↓zvD, zvU, ↓up_apply, ↓hv_apply, ↓upO_some, ↓upO_none, ↓ev_tmp, ↓ev_const, ↓ev_func, ↓ev_global, init, Nat.reduceEqDiff, Nat.reduceAdd, Nat.reduceMul, Nat.reduceSub, ↓reduceIte, Int.reduceEq, Int.reduceNe, Nat.reduceLeDiff, one, Value.cells, Int.reduceLE, Int.reduceLT, Int.reduceToNat, add_mk, reduceCtorEq, List.mem_range'_1, true_and, and_true, and_false, false_and, Nat.reduceLT, Nat.reduceLeDiff, tyF]
      simp only [cb]
      simp (config := {maxSteps := 1000000}) only [↓zvD, zvU, ↓up_apply, ↓hv_apply, ↓upO_some, ↓upO_none, ↓ev_tmp, ↓ev_const, ↓ev_func, ↓ev_global, init, Nat.reduceEqDiff, Nat.reduceAdd, Nat.reduceMul, Nat.reduceSub, ↓reduceIte, Int.reduceEq, Int.reduceNe, Nat.reduceLeDiff, one, Value.cells, Int.reduceLE, Int.reduceLT, Int.reduceToNat, add_mk, reduceCtorEq, List.mem_range'_1, true_and, and_true, and_false, false_and, Nat.reduceLT, Nat.reduceLeDiff, tyF]
      rw [rop_build0 w]
      try simp (config := {maxSteps := 1000000}) only [↓zvD, zvU, ↓up_apply, ↓hv_apply, ↓upO_some, ↓upO_none, ↓ev_tmp, ↓ev_const, ↓ev_func, ↓ev_global, init, Nat.reduceEqDiff, Nat.reduceAdd, Nat.reduceMul, Nat.reduceSub, ↓reduceIte, Int.reduceEq, Int.reduceNe, Nat.reduceLeDiff, one, Value.cells, Int.reduceLE, Int.reduceLT, Int.reduceToNat, add_mk, reduceCtorEq, List.mem_range'_1, true_and, and_true, and_false, false_and, Nat.reduceLT, Nat.reduceLeDiff, tyF]
      rw [st_same_eq fz (SOp.len (opZ_fit 0) _) (SOp.one (opZ 0) (sl := .slice none 0 0) rfl)]
      have fzv := fz.all_eq 49 (SOp.len (opZ_fit 0) _)
      try simp (config := {maxSteps := 1000000}) only [↓zvD, zvU, ↓up_apply, ↓hv_apply, ↓upO_some, ↓upO_none, ↓ev_tmp, ↓ev_const, ↓ev_func, ↓ev_global, init, Nat.reduceEqDiff, Nat.reduceAdd, Nat.reduceMul, Nat.reduceSub, ↓reduceIte, Int.reduceEq, Int.reduceNe, Nat.reduceLeDiff, one, Value.cells, Int.reduceLE, Int.reduceLT, Int.reduceToNat, add_mk, reduceCtorEq, List.mem_range'_1, true_and, and_true, and_false, false_and, Nat.reduceLT, Nat.reduceLeDiff, tyF]
      try simp only [fzv]
      try simp (config := {maxSteps := 1000000}) only [↓zvD, zvU, ↓up_apply, ↓hv_apply, ↓upO_some, ↓upO_none, ↓ev_tmp, ↓ev_const, ↓ev_func, ↓ev_global, init, Nat.reduceEqDiff, Nat.reduceAdd, Nat.reduceMul, Nat.reduceSub, ↓reduceIte, Int.reduceEq, Int.reduceNe, Nat.reduceLeDiff, one, Value.cells, Int.reduceLE, Int.reduceLT, Int.reduceToNat, add_mk, reduceCtorEq, List.mem_range'_1, true_and, and_true, and_false, false_and, Nat.reduceLT, Nat.reduceLeDiff, tyF]
      exact ⟨fun _ => rfl, fun h => absurd (((show (InM.mk (s.take 160).2.rest true).bad = true from rfl)).symm.trans h) (by simp), fm⟩
theorem one_3 (w0 w : World) (hw0 : More w0 w) (A : Option Addr) (x : UInt8) (rest : List UInt8) (c : Nat) (hA : Bs w0 A (x :: rest)) (hc : (x :: rest).length ≤ c) (hl : rest.length ≤ 1000000) (hkk : (x.toNat : Int) = 3) :
    Ret Try.prog 86 #[.slice A (x :: rest).length c] w (OneR w0 w (rest.length + 1) (takeM x.toNat ⟨rest, false⟩)) := by
  refine ret_of Try.func86 rfl (by kernel_rfl) (Nat.le_of_ble_eq_true (by kernel_rfl)) ?_
  obtain ⟨a, rfl⟩ := hA.isAt (by simp)
  have hx0 : ∀ w', More w w' → w'.cell? (a.add 0) = some (.int .u8 x.toNat) := fun w' h => by
    obtain ⟨b, hb, h0⟩ := (hA.more (hw0.trans h)) 0 (byteV x) rfl
    cases hb
    exact h0
  have hm1 := more_alloc w (.cells ((opZ 0).cells (.slice none 0 0)).toArray 86)
  have hb1 := Blk.new w 86 ((opZ 0).cells (.slice none 0 0)).toArray
  have s1 := size_alloc w (.cells ((opZ 0).cells (.slice none 0 0)).toArray 86)
  have c1 := hx0 _ hm1
  simp (config := {maxSteps := 1000000}) only [↓zvD, zvU, ↓up_apply, ↓hv_apply, ↓upO_some, ↓upO_none, ↓ev_tmp, ↓ev_const, ↓ev_func, ↓ev_global, init, Nat.reduceEqDiff, Nat.reduceAdd, Nat.reduceMul, Nat.reduceSub, ↓reduceIte, Int.reduceEq, Int.reduceNe, Nat.reduceLeDiff, one, Value.cells, Int.reduceLE, Int.reduceLT, Int.reduceToNat, add_mk, reduceCtorEq, List.mem_range'_1, true_and, and_true, and_false, false_and, Nat.reduceLT, Nat.reduceLeDiff, tyF, zerROp]
  generalize w.alloc (.cells ((opZ 0).cells (.slice none 0 0)).toArray 86) = w1 at hm1 hb1 s1 c1 ⊢
  refine ⟨by simp only [List.length_cons]; omega, ?_⟩
  simp (config := {maxSteps := 1000000}) only [↓zvD, zvU, ↓up_apply, ↓hv_apply, ↓upO_some, ↓upO_none, ↓ev_tmp, ↓ev_const, ↓ev_func, ↓ev_global, init, Nat.reduceEqDiff, Nat.reduceAdd, Nat.reduceMul, Nat.reduceSub, ↓reduceIte, Int.reduceEq, Int.reduceNe, Nat.reduceLeDiff, one, Value.cells, Int.reduceLE, Int.reduceLT, Int.reduceToNat, add_mk, reduceCtorEq, List.mem_range'_1, true_and, and_true, and_false, false_and, Nat.reduceLT, Nat.reduceLeDiff, tyF, c1, rop_build x.toNat w1, zerROp]
  have hm2 := more_alloc w1 (.cells ((opZ 0).cells (.slice none 0 0)).toArray 86)
  have hb2 := Blk.new w1 86 ((opZ 0).cells (.slice none 0 0)).toArray
  have s2 := size_alloc w1 (.cells ((opZ 0).cells (.slice none 0 0)).toArray 86)
  generalize w1.alloc (.cells ((opZ 0).cells (.slice none 0 0)).toArray 86) = w2 at hm2 hb2 s2 ⊢
  rw [List.toList_toArray] at hb1 hb2
  have hz2 := hb1.more hm2
  replace hm2 := hm1.trans hm2
  refine st_all hb2 (by simp [SOp.len (opZ_fit _)]) (SOp.len (opZ_fit 0) _) (fun u hu => SOp.one (opZ x.toNat) (sl := .slice none 0 0) rfl u hu) fun w3 j1 j2 => ?_
  rw [List.toList_toArray] at j2
  have hz3 := j1.blk hz2 (by omega)
  have s3 := j1.size
  have hm3 : More w w3 := j1.below hm2 (by omega)
  have g1 : (1 : Nat) ≤ (x :: rest).length := by simp
  simp (config := {maxSteps := 1000000}) only [↓zvD, zvU, ↓up_apply, ↓hv_apply, ↓upO_some, ↓upO_none, ↓ev_tmp, ↓ev_const, ↓ev_func, ↓ev_global, init, Nat.reduceEqDiff, Nat.reduceAdd, Nat.reduceMul, Nat.reduceSub, ↓reduceIte, Int.reduceEq, Int.reduceNe, Nat.reduceLeDiff, one, Value.cells, Int.reduceLE, Int.reduceLT, Int.reduceToNat, add_mk, reduceCtorEq, List.mem_range'_1, true_and, and_true, and_false, false_and, Nat.reduceLT, Nat.reduceLeDiff, tyF, rin_build _ _ _ w3, zer51, g1]
  have hm4 := more_alloc w3 (.cells #[.slice none 0 0, .bool false] 51)
  have hb4 := Blk.new w3 51 #[.slice none 0 0, .bool false]
  have s4 := size_alloc w3 (.cells #[.slice none 0 0, .bool false] 51)
  generalize w3.alloc (.cells #[.slice none 0 0, .bool false] 51) = w4 at hm4 hb4 s4 ⊢
  refine st_all hb4 rfl rfl (by intro u hu; simp at hu; rcases hu with rfl | rfl <;> rfl) fun w5 k1 k2 => ?_
  rw [List.toList_toArray] at k2
  have hz5 := k1.blk (hz3.more hm4) (by omega)
  have hp5 := k1.blk (j2.more hm4) (by omega)
  have s5 := k1.size
  have hm5 : More w w5 := k1.below (hm3.trans hm4) (by omega)
  have hRI5 : RIs w0 ⟨rest, false⟩ (RV.adv (some a) c 1 1) (c - 1) := by
    refine ⟨?_, by rw [nrm_ok rfl]; simp at hc; show rest.length ≤ _; omega⟩
    rw [nrm_ok rfl]
    exact Cs.advB (k := 1) hA hc
  have hR5 : Blk w5 w3.heap.size 51 [.slice (RV.adv (some a) c 1 1) (nrm ⟨rest, false⟩).length (c - 1), .bool (InM.mk rest false).bad] := k2
  have hsl : (InM.mk rest false).rest.length = rest.length := rfl
  have hkx : (x.toNat : Int) = x.toNat := rfl
  generalize hAr : RV.adv (some a) c 1 1 = Ar at hRI5 hR5
  generalize hcr : c - 1 = cr at hRI5 hR5
  generalize hss : InM.mk rest false = s at hRI5 hR5 hsl ⊢
  generalize hzz : w.heap.size = z at *
  generalize hpp : w1.heap.size = p at *
  generalize hrr : w3.heap.size = r at *
  have hrest := takeM_rest x.toNat s
  have kc := hp5.cell 0
  have kc : w5.cell? ⟨p, 0, none⟩ = some (.int .u8 x.toNat) := by rw [hp5.cell]; rfl
  generalize hk : (x.toNat : Int) = k at *
  unfold takeM at hrest ⊢
  have hv5 := hR5.all_eq 2 rfl
  subst hkk
  rw [if_neg (show ¬ ((3 : Int) = 1) by decide), if_neg (show ¬ ((3 : Int) = 2) by decide), if_neg (show ¬ ((3 : Int) = 4) by decide), if_neg (show ¬ ((3 : Int) = 5) by decide), if_neg (show ¬ ((3 : Int) = 7) by decide), if_pos (show ((3 : Int) = 3 ∨ (3 : Int) = 6 ∨ (3 : Int) = 8) by decide)] at hrest ⊢
  simp (config := {maxSteps := 1000000}) only [↓zvD, zvU, ↓up_apply, ↓hv_apply, ↓upO_some, ↓upO_none, ↓ev_tmp, ↓ev_const, ↓ev_func, ↓ev_global, init, Nat.reduceEqDiff, Nat.reduceAdd, Nat.reduceMul, Nat.reduceSub, ↓reduceIte, Int.reduceEq, Int.reduceNe, Nat.reduceLeDiff, one, Value.cells, Int.reduceLE, Int.reduceLT, Int.reduceToNat, add_mk, reduceCtorEq, List.mem_range'_1, true_and, and_true, and_false, false_and, Nat.reduceLT, Nat.reduceLeDiff, tyF, kc]
  have fz := hz5
  have fp := hp5
  have fR := hR5
  have fm := hm5
  have fA : Bs w0 (none : Option Addr) (opZ 3).b := (Cs.nil w0 _)
  cases hbd : (s).bad with
  | true =>
    have cb := fR.cell 1
    simp only [hbd, List.getElem?_cons_succ, List.getElem?_cons_zero] at cb
    try simp (config := {maxSteps := 1000000}) only [↓zvD, zvU, ↓up_apply, ↓hv_apply, ↓upO_some, ↓upO_none, ↓ev_tmp, ↓ev_const, ↓ev_func, ↓ev_global, init, Nat.reduceEqDiff, Nat.reduceAdd, Nat.reduceMul, Nat.reduceSub, ↓reduceIte, Int.reduceEq, Int.reduceNe, Nat.reduceLeDiff, one, Value.cells, Int.reduceLE, Int.reduceLT, Int.reduceToNat, add_mk, reduceCtorEq, List.mem_range'_1, true_and, and_true, and_false, false_and, Nat.reduceLT, Nat.reduceLeDiff, tyF]
    simp only [cb]
    simp (config := {maxSteps := 1000000}) only [↓zvD, zvU, ↓up_apply, ↓hv_apply, ↓upO_some, ↓upO_none, ↓ev_tmp, ↓ev_const, ↓ev_func, ↓ev_global, init, Nat.reduceEqDiff, Nat.reduceAdd, Nat.reduceMul, Nat.reduceSub, ↓reduceIte, Int.reduceEq, Int.reduceNe, Nat.reduceLeDiff, one, Value.cells, Int.reduceLE, Int.reduceLT, Int.reduceToNat, add_mk, reduceCtorEq, List.mem_range'_1, true_and, and_true, and_false, false_and, Nat.reduceLT, Nat.reduceLeDiff, tyF]
    rw [rop_build0 w]
    try simp (config := {maxSteps := 1000000}) only [↓zvD, zvU, ↓up_apply, ↓hv_apply, ↓upO_some, ↓upO_none, ↓ev_tmp, ↓ev_const, ↓ev_func, ↓ev_global, init, Nat.reduceEqDiff, Nat.reduceAdd, Nat.reduceMul, Nat.reduceSub, ↓reduceIte, Int.reduceEq, Int.reduceNe, Nat.reduceLeDiff, one, Value.cells, Int.reduceLE, Int.reduceLT, Int.reduceToNat, add_mk, reduceCtorEq, List.mem_range'_1, true_and, and_true, and_false, false_and, Nat.reduceLT, Nat.reduceLeDiff, tyF]
    rw [st_same_eq fz (SOp.len (opZ_fit 0) _) (SOp.one (opZ 0) (sl := .slice none 0 0) rfl)]
    have fzv := fz.all_eq 49 (SOp.len (opZ_fit 0) _)
    try simp (config := {maxSteps := 1000000}) only [↓zvD, zvU, ↓up_apply, ↓hv_apply, ↓upO_some, ↓upO_none, ↓ev_tmp, ↓ev_const, ↓ev_func, ↓ev_global, init, Nat.reduceEqDiff, Nat.reduceAdd, Nat.reduceMul, Nat.reduceSub, ↓reduceIte, Int.reduceEq, Int.reduceNe, Nat.reduceLeDiff, one, Value.cells, Int.reduceLE, Int.reduceLT, Int.reduceToNat, add_mk, reduceCtorEq, List.mem_range'_1, true_and, and_true, and_false, false_and, Nat.reduceLT, Nat.reduceLeDiff, tyF]
    try simp only [fzv]
    try simp (config := {maxSteps := 1000000}) only [↓zvD, zvU, ↓up_apply, ↓hv_apply, ↓upO_some, ↓upO_none, ↓ev_tmp, ↓ev_const, ↓ev_func, ↓ev_global, init, Nat.reduceEqDiff, Nat.reduceAdd, Nat.reduceMul, Nat.reduceSub, ↓reduceIte, Int.reduceEq, Int.reduceNe, Nat.reduceLeDiff, one, Value.cells, Int.reduceLE, Int.reduceLT, Int.reduceToNat, add_mk, reduceCtorEq, List.mem_range'_1, true_and, and_true, and_false, false_and, Nat.reduceLT, Nat.reduceLeDiff, tyF]
    exact ⟨fun _ => rfl, fun h => absurd (hbd.symm.trans h) (by simp), fm⟩
  | false =>
    have cb := fR.cell 1
    simp only [hbd, List.getElem?_cons_succ, List.getElem?_cons_zero] at cb
    have ca := fR.cell 0
    simp only [List.getElem?_cons_zero] at ca
    have fps := fm.size
    try simp (config := {maxSteps := 1000000}) only [↓zvD, zvU, ↓up_apply, ↓hv_apply, ↓upO_some, ↓upO_none, ↓ev_tmp, ↓ev_const, ↓ev_func, ↓ev_global, init, Nat.reduceEqDiff, Nat.reduceAdd, Nat.reduceMul, Nat.reduceSub, ↓reduceIte, Int.reduceEq, Int.reduceNe, Nat.reduceLeDiff, one, Value.cells, Int.reduceLE, Int.reduceLT, Int.reduceToNat, add_mk, reduceCtorEq, List.mem_range'_1, true_and, and_true, and_false, false_and, Nat.reduceLT, Nat.reduceLeDiff, tyF]
    simp only [cb]
    try simp (config := {maxSteps := 1000000}) only [↓zvD, zvU, ↓up_apply, ↓hv_apply, ↓upO_some, ↓upO_none, ↓ev_tmp, ↓ev_const, ↓ev_func, ↓ev_global, init, Nat.reduceEqDiff, Nat.reduceAdd, Nat.reduceMul, Nat.reduceSub, ↓reduceIte, Int.reduceEq, Int.reduceNe, Nat.reduceLeDiff, one, Value.cells, Int.reduceLE, Int.reduceLT, Int.reduceToNat, add_mk, reduceCtorEq, List.mem_range'_1, true_and, and_true, and_false, false_and, Nat.reduceLT, Nat.reduceLeDiff, tyF]
    refine draw_name fun K hK => ?_
    refine draw_finB z (by omega) 86 ((opZ 3).cells (.slice none (opZ 3).b.length 0)) 8 [[], [], [1], [], [3], [3, 4], [1, 2, 3, 4, 5], [0], [0, 1, 2, 3, 4, 5, 6, 7]] [(0, RV.IsV (.agg ((opZ 3).cells (.slice none (opZ 3).b.length 0)).toArray)), (4, RV.IsV (.slice Ar (nrm s).length cr)), (7, fun _ w' => Blk w' z 86 ((opZ 3).cells (.slice none (opZ 3).b.length 0)))] mixed (by kernel_rfl) (by kernel_rfl) ?_ ?_
    · intro y hy v' a' b' hab hya
      simp only [List.mem_cons, List.not_mem_nil, or_false] at hy
      rcases hy with rfl | rfl | rfl
      · exact hya
      · exact hya
      · exact hab.done hya
    try simp (config := {maxSteps := 1000000}) only [↓zvD, zvU, ↓zqD, ↓up_apply, ↓hv_apply, ↓upO_some, ↓upO_none, ↓ev_tmp, ↓ev_const, ↓ev_func, ↓ev_global, init, Nat.reduceEqDiff, Nat.reduceAdd, Nat.reduceMul, Nat.reduceSub, ↓reduceIte, Int.reduceEq, Int.reduceNe, Nat.reduceLeDiff, one, Value.cells, Int.reduceLE, Int.reduceLT, Int.reduceToNat, add_mk, reduceCtorEq, List.mem_range'_1, true_and, and_true, and_false, false_and, Nat.reduceLT, Nat.reduceLeDiff, tyF]
    refine ⟨fun w1' hf => ?_, ?_⟩
    · have q1 := (hf.done fp).all_eq 49 (SOp.len (opZ_fit 3) _)
      simp only [q1]
      try simp (config := {maxSteps := 1000000}) only [↓zvD, zvU, ↓zqD, ↓up_apply, ↓hv_apply, ↓upO_some, ↓upO_none, ↓ev_tmp, ↓ev_const, ↓ev_func, ↓ev_global, init, Nat.reduceEqDiff, Nat.reduceAdd, Nat.reduceMul, Nat.reduceSub, ↓reduceIte, Int.reduceEq, Int.reduceNe, Nat.reduceLeDiff, one, Value.cells, Int.reduceLE, Int.reduceLT, Int.reduceToNat, add_mk, reduceCtorEq, List.mem_range'_1, true_and, and_true, and_false, false_and, Nat.reduceLT, Nat.reduceLeDiff, tyF]
      exact ⟨Fin.refl _ _ _ _, rfl⟩
    rintro _ ⟨w1', hf1, rfl⟩
    try simp (config := {maxSteps := 1000000}) only [↓zvD, zvU, ↓zqD, ↓up_apply, ↓hv_apply, ↓upO_some, ↓upO_none, ↓ev_tmp, ↓ev_const, ↓ev_func, ↓ev_global, init, Nat.reduceEqDiff, Nat.reduceAdd, Nat.reduceMul, Nat.reduceSub, ↓reduceIte, Int.reduceEq, Int.reduceNe, Nat.reduceLeDiff, one, Value.cells, Int.reduceLE, Int.reduceLT, Int.reduceToNat, add_mk, reduceCtorEq, List.mem_range'_1, true_and, and_true, and_false, false_and, Nat.reduceLT, Nat.reduceLeDiff, tyF]
    refine ⟨fun w1'' hf => ?_, ?_⟩
    · have q1 := (hf.blk _ _ _ (by decide) fR).cell 0
      simp only [List.getElem?_cons_zero] at q1
      simp only [q1]
      try simp (config := {maxSteps := 1000000}) only [↓zvD, zvU, ↓zqD, ↓up_apply, ↓hv_apply, ↓upO_some, ↓upO_none, ↓ev_tmp, ↓ev_const, ↓ev_func, ↓ev_global, init, Nat.reduceEqDiff, Nat.reduceAdd, Nat.reduceMul, Nat.reduceSub, ↓reduceIte, Int.reduceEq, Int.reduceNe, Nat.reduceLeDiff, one, Value.cells, Int.reduceLE, Int.reduceLT, Int.reduceToNat, add_mk, reduceCtorEq, List.mem_range'_1, true_and, and_true, and_false, false_and, Nat.reduceLT, Nat.reduceLeDiff, tyF]
      exact ⟨Fin.refl _ _ _ _, rfl⟩
    rintro _ ⟨w2', hf2, _, rfl⟩
    have el : IntKind.i64.wrap (((x :: rest).length : Int) - ((nrm s).length : Int)) = ((rest.length + 1 : Nat) : Int) - ((s).rest.length : Int) := by
      rw [nrm_ok hbd, List.length_cons]
      have : (s).rest.length ≤ rest.length := by rw [← hsl]; exact hrest
      exact w64 (by omega) (by omega)
    try simp (config := {maxSteps := 1000000}) only [↓zvD, zvU, ↓zqD, ↓up_apply, ↓hv_apply, ↓upO_some, ↓upO_none, ↓ev_tmp, ↓ev_const, ↓ev_func, ↓ev_global, init, Nat.reduceEqDiff, Nat.reduceAdd, Nat.reduceMul, Nat.reduceSub, ↓reduceIte, Int.reduceEq, Int.reduceNe, Nat.reduceLeDiff, one, Value.cells, Int.reduceLE, Int.reduceLT, Int.reduceToNat, add_mk, reduceCtorEq, List.mem_range'_1, true_and, and_true, and_false, false_and, Nat.reduceLT, Nat.reduceLeDiff, tyF, el]
    refine ⟨fun w3' hf _ => ?_, ?_⟩
    · obtain ⟨cs3, g3, g4⟩ := hf.some ⟨_, fz, by rw [SOp.len (opZ_fit 0), SOp.len (opZ_fit 3)]⟩
      refine st_all g3 (by simp [SOp.len (opZ_fit 3)]) (by rw [g4, SOp.len (opZ_fit 3)]) (fun u hu => SOp.one (opZ 3) (sl := .slice none (opZ 3).b.length 0) rfl u hu) fun w4' k1' k2' => ?_
      rw [List.toList_toArray] at k2'
      exact ⟨Fin.of_wr k1' g3 k2' (Nat.le_refl _), k2'⟩
    rintro _ ⟨w3', hf3, _, fz3⟩
    try simp (config := {maxSteps := 1000000}) only [↓zvD, zvU, ↓zqD, ↓up_apply, ↓hv_apply, ↓upO_some, ↓upO_none, ↓ev_tmp, ↓ev_const, ↓ev_func, ↓ev_global, init, Nat.reduceEqDiff, Nat.reduceAdd, Nat.reduceMul, Nat.reduceSub, ↓reduceIte, Int.reduceEq, Int.reduceNe, Nat.reduceLeDiff, one, Value.cells, Int.reduceLE, Int.reduceLT, Int.reduceToNat, add_mk, reduceCtorEq, List.mem_range'_1, true_and, and_true, and_false, false_and, Nat.reduceLT, Nat.reduceLeDiff, tyF, el]
    intro w4' hf4 hd4
    have fz4 : Blk w4' z 86 ((opZ 3).cells (.slice none (opZ 3).b.length 0)) := hd4 (7, fun w' => Blk w' z 86 ((opZ 3).cells (.slice none (opZ 3).b.length 0))) (by simp)
    have fzv := fz4.all_eq 49 (SOp.len (opZ_fit 3) _)
    try rw [stop1]
    try simp (config := {maxSteps := 1000000}) only [↓zvD, zvU, ↓up_apply, ↓hv_apply, ↓upO_some, ↓upO_none, ↓ev_tmp, ↓ev_const, ↓ev_func, ↓ev_global, init, Nat.reduceEqDiff, Nat.reduceAdd, Nat.reduceMul, Nat.reduceSub, ↓reduceIte, Int.reduceEq, Int.reduceNe, Nat.reduceLeDiff, one, Value.cells, Int.reduceLE, Int.reduceLT, Int.reduceToNat, add_mk, reduceCtorEq, List.mem_range'_1, true_and, and_true, and_false, false_and, Nat.reduceLT, Nat.reduceLeDiff, tyF, el]
    refine hK _ _ ?_
    clear hK K
    try simp (config := {maxSteps := 1000000}) only [↓zvD, zvU, ↓up_apply, ↓hv_apply, ↓upO_some, ↓upO_none, ↓ev_tmp, ↓ev_const, ↓ev_func, ↓ev_global, init, Nat.reduceEqDiff, Nat.reduceAdd, Nat.reduceMul, Nat.reduceSub, ↓reduceIte, Int.reduceEq, Int.reduceNe, Nat.reduceLeDiff, one, Value.cells, Int.reduceLE, Int.reduceLT, Int.reduceToNat, add_mk, reduceCtorEq, List.mem_range'_1, true_and, and_true, and_false, false_and, Nat.reduceLT, Nat.reduceLeDiff, tyF, p_nil]
    try simp only [fzv]
    try simp (config := {maxSteps := 1000000}) only [↓zvD, zvU, ↓up_apply, ↓hv_apply, ↓upO_some, ↓upO_none, ↓ev_tmp, ↓ev_const, ↓ev_func, ↓ev_global, init, Nat.reduceEqDiff, Nat.reduceAdd, Nat.reduceMul, Nat.reduceSub, ↓reduceIte, Int.reduceEq, Int.reduceNe, Nat.reduceLeDiff, one, Value.cells, Int.reduceLE, Int.reduceLT, Int.reduceToNat, add_mk, reduceCtorEq, List.mem_range'_1, true_and, and_true, and_false, false_and, Nat.reduceLT, Nat.reduceLeDiff, tyF]
    have hmw : More w w4' := Below.trans fm (by rw [hzz]; exact hf4.below)
    exact ⟨fun h => absurd (hbd.symm.trans h) (by simp), fun _ => ⟨none, 0, rfl, fA, (by simp [opZ])⟩, hmw⟩
theorem one_6 (w0 w : World) (hw0 : More w0 w) (A : Option Addr) (x : UInt8) (rest : List UInt8) (c : Nat) (hA : Bs w0 A (x :: rest)) (hc : (x :: rest).length ≤ c) (hl : rest.length ≤ 1000000) (hkk : (x.toNat : Int) = 6) :
    Ret Try.prog 86 #[.slice A (x :: rest).length c] w (OneR w0 w (rest.length + 1) (takeM x.toNat ⟨rest, false⟩)) := by
  refine ret_of Try.func86 rfl (by kernel_rfl) (Nat.le_of_ble_eq_true (by kernel_rfl)) ?_
  obtain ⟨a, rfl⟩ := hA.isAt (by simp)
  have hx0 : ∀ w', More w w' → w'.cell? (a.add 0) = some (.int .u8 x.toNat) := fun w' h => by
    obtain ⟨b, hb, h0⟩ := (hA.more (hw0.trans h)) 0 (byteV x) rfl
    cases hb
    exact h0
  have hm1 := more_alloc w (.cells ((opZ 0).cells (.slice none 0 0)).toArray 86)
  have hb1 := Blk.new w 86 ((opZ 0).cells (.slice none 0 0)).toArray
  have s1 := size_alloc w (.cells ((opZ 0).cells (.slice none 0 0)).toArray 86)
  have c1 := hx0 _ hm1
  simp (config := {maxSteps := 1000000}) only [↓zvD, zvU, ↓up_apply, ↓hv_apply, ↓upO_some, ↓upO_none, ↓ev_tmp, ↓ev_const, ↓ev_func, ↓ev_global, init, Nat.reduceEqDiff, Nat.reduceAdd, Nat.reduceMul, Nat.reduceSub, ↓reduceIte, Int.reduceEq, Int.reduceNe, Nat.reduceLeDiff, one, Value.cells, Int.reduceLE, Int.reduceLT, Int.reduceToNat, add_mk, reduceCtorEq, List.mem_range'_1, true_and, and_true, and_false, false_and, Nat.reduceLT, Nat.reduceLeDiff, tyF, zerROp]
  generalize w.alloc (.cells ((opZ 0).cells (.slice none 0 0)).toArray 86) = w1 at hm1 hb1 s1 c1 ⊢
  refine ⟨by simp only [List.length_cons]; omega, ?_⟩
  simp (config := {maxSteps := 1000000}) only [↓zvD, zvU, ↓up_apply, ↓hv_apply, ↓upO_some, ↓upO_none, ↓ev_tmp, ↓ev_const, ↓ev_func, ↓ev_global, init, Nat.reduceEqDiff, Nat.reduceAdd, Nat.reduceMul, Nat.reduceSub, ↓reduceIte, Int.reduceEq, Int.reduceNe, Nat.reduceLeDiff, one, Value.cells, Int.reduceLE, Int.reduceLT, Int.reduceToNat, add_mk, reduceCtorEq, List.mem_range'_1, true_and, and_true, and_false, false_and, Nat.reduceLT, Nat.reduceLeDiff, tyF, c1, rop_build x.toNat w1, zerROp]
  have hm2 := more_alloc w1 (.cells ((opZ 0).cells (.slice none 0 0)).toArray 86)
  have hb2 := Blk.new w1 86 ((opZ 0).cells (.slice none 0 0)).toArray
  have s2 := size_alloc w1 (.cells ((opZ 0).cells (.slice none 0 0)).toArray 86)
  generalize w1.alloc (.cells ((opZ 0).cells (.slice none 0 0)).toArray 86) = w2 at hm2 hb2 s2 ⊢
  rw [List.toList_toArray] at hb1 hb2
  have hz2 := hb1.more hm2
  replace hm2 := hm1.trans hm2
  refine st_all hb2 (by simp [SOp.len (opZ_fit _)]) (SOp.len (opZ_fit 0) _) (fun u hu => SOp.one (opZ x.toNat) (sl := .slice none 0 0) rfl u hu) fun w3 j1 j2 => ?_
  rw [List.toList_toArray] at j2
  have hz3 := j1.blk hz2 (by omega)
  have s3 := j1.size
  have hm3 : More w w3 := j1.below hm2 (by omega)
  have g1 : (1 : Nat) ≤ (x :: rest).length := by simp
  simp (config := {maxSteps := 1000000}) only [↓zvD, zvU, ↓up_apply, ↓hv_apply, ↓upO_some, ↓upO_none, ↓ev_tmp, ↓ev_const, ↓ev_func, ↓ev_global, init, Nat.reduceEqDiff, Nat.reduceAdd, Nat.reduceMul, Nat.reduceSub, ↓reduceIte, Int.reduceEq, Int.reduceNe, Nat.reduceLeDiff, one, Value.cells, Int.reduceLE, Int.reduceLT, Int.reduceToNat, add_mk, reduceCtorEq, List.mem_range'_1, true_and, and_true, and_false, false_and, Nat.reduceLT, Nat.reduceLeDiff, tyF, rin_build _ _ _ w3, zer51, g1]
  have hm4 := more_alloc w3 (.cells #[.slice none 0 0, .bool false] 51)
  have hb4 := Blk.new w3 51 #[.slice none 0 0, .bool false]
  have s4 := size_alloc w3 (.cells #[.slice none 0 0, .bool false] 51)
  generalize w3.alloc (.cells #[.slice none 0 0, .bool false] 51) = w4 at hm4 hb4 s4 ⊢
  refine st_all hb4 rfl rfl (by intro u hu; simp at hu; rcases hu with rfl | rfl <;> rfl) fun w5 k1 k2 => ?_
  rw [List.toList_toArray] at k2
  have hz5 := k1.blk (hz3.more hm4) (by omega)
  have hp5 := k1.blk (j2.more hm4) (by omega)
  have s5 := k1.size
  have hm5 : More w w5 := k1.below (hm3.trans hm4) (by omega)
  have hRI5 : RIs w0 ⟨rest, false⟩ (RV.adv (some a) c 1 1) (c - 1) := by
    refine ⟨?_, by rw [nrm_ok rfl]; simp at hc; show rest.length ≤ _; omega⟩
    rw [nrm_ok rfl]
    exact Cs.advB (k := 1) hA hc
  have hR5 : Blk w5 w3.heap.size 51 [.slice (RV.adv (some a) c 1 1) (nrm ⟨rest, false⟩).length (c - 1), .bool (InM.mk rest false).bad] := k2
  have hsl : (InM.mk rest false).rest.length = rest.length := rfl
  have hkx : (x.toNat : Int) = x.toNat := rfl
  generalize hAr : RV.adv (some a) c 1 1 = Ar at hRI5 hR5
  generalize hcr : c - 1 = cr at hRI5 hR5
  generalize hss : InM.mk rest false = s at hRI5 hR5 hsl ⊢
  generalize hzz : w.heap.size = z at *
  generalize hpp : w1.heap.size = p at *
  generalize hrr : w3.heap.size = r at *
  have hrest := takeM_rest x.toNat s
  have kc := hp5.cell 0
  have kc : w5.cell? ⟨p, 0, none⟩ = some (.int .u8 x.toNat) := by rw [hp5.cell]; rfl
  generalize hk : (x.toNat : Int) = k at *
  unfold takeM at hrest ⊢
  have hv5 := hR5.all_eq 2 rfl
  subst hkk
  rw [if_neg (show ¬ ((6 : Int) = 1) by decide), if_neg (show ¬ ((6 : Int) = 2) by decide), if_neg (show ¬ ((6 : Int) = 4) by decide), if_neg (show ¬ ((6 : Int) = 5) by decide), if_neg (show ¬ ((6 : Int) = 7) by decide), if_pos (show ((6 : Int) = 3 ∨ (6 : Int) = 6 ∨ (6 : Int) = 8) by decide)] at hrest ⊢
  simp (config := {maxSteps := 1000000}) only [↓zvD, zvU, ↓up_apply, ↓hv_apply, ↓upO_some, ↓upO_none, ↓ev_tmp, ↓ev_const, ↓ev_func, ↓ev_global, init, Nat.reduceEqDiff, Nat.reduceAdd, Nat.reduceMul, Nat.reduceSub, ↓reduceIte, Int.reduceEq, Int.reduceNe, Nat.reduceLeDiff, one, Value.cells, Int.reduceLE, Int.reduceLT, Int.reduceToNat, add_mk, reduceCtorEq, List.mem_range'_1, true_and, and_true, and_false, false_and, Nat.reduceLT, Nat.reduceLeDiff, tyF, kc]
  have fz := hz5
  have fp := hp5
  have fR := hR5
  have fm := hm5
  have fA : Bs w0 (none : Option Addr) (opZ 6).b := (Cs.nil w0 _)
  cases hbd : (s).bad with
  | true =>
    have cb := fR.cell 1
    simp only [hbd, List.getElem?_cons_succ, List.getElem?_cons_zero] at cb
    try simp (config := {maxSteps := 1000000}) only [↓zvD, zvU, ↓up_apply, ↓hv_apply, ↓upO_some, ↓upO_none, ↓ev_tmp, ↓ev_const, ↓ev_func, ↓ev_global, init, Nat.reduceEqDiff, Nat.reduceAdd, Nat.reduceMul, Nat.reduceSub, ↓reduceIte, Int.reduceEq, Int.reduceNe, Nat.reduceLeDiff, one, Value.cells, Int.reduceLE, Int.reduceLT, Int.reduceToNat, add_mk, reduceCtorEq, List.mem_range'_1, true_and, and_true, and_false, false_and, Nat.reduceLT, Nat.reduceLeDiff, tyF]
    simp only [cb]
    simp (config := {maxSteps := 1000000}) only [↓zvD, zvU, ↓up_apply, ↓hv_apply, ↓upO_some, ↓upO_none, ↓ev_tmp, ↓ev_const, ↓ev_func, ↓ev_global, init, Nat.reduceEqDiff, Nat.reduceAdd, Nat.reduceMul, Nat.reduceSub, ↓reduceIte, Int.reduceEq, Int.reduceNe, Nat.reduceLeDiff, one, Value.cells, Int.reduceLE, Int.reduceLT, Int.reduceToNat, add_mk, reduceCtorEq, List.mem_range'_1, true_and, and_true, and_false, false_and, Nat.reduceLT, Nat.reduceLeDiff, tyF]
    rw [rop_build0 w]
    try simp (config := {maxSteps := 1000000}) only [↓zvD, zvU, ↓up_apply, ↓hv_apply, ↓upO_some, ↓upO_none, ↓ev_tmp, ↓ev_const, ↓ev_func, ↓ev_global, init, Nat.reduceEqDiff, Nat.reduceAdd, Nat.reduceMul, Nat.reduceSub, ↓reduceIte, Int.reduceEq, Int.reduceNe, Nat.reduceLeDiff, one, Value.cells, Int.reduceLE, Int.reduceLT, Int.reduceToNat, add_mk, reduceCtorEq, List.mem_range'_1, true_and, and_true, and_false, false_and, Nat.reduceLT, Nat.reduceLeDiff, tyF]
    rw [st_same_eq fz (SOp.len (opZ_fit 0) _) (SOp.one (opZ 0) (sl := .slice none 0 0) rfl)]
    have fzv := fz.all_eq 49 (SOp.len (opZ_fit 0) _)
    try simp (config := {maxSteps := 1000000}) only [↓zvD, zvU, ↓up_apply, ↓hv_apply, ↓upO_some, ↓upO_none, ↓ev_tmp, ↓ev_const, ↓ev_func, ↓ev_global, init, Nat.reduceEqDiff, Nat.reduceAdd, Nat.reduceMul, Nat.reduceSub, ↓reduceIte, Int.reduceEq, Int.reduceNe, Nat.reduceLeDiff, one, Value.cells, Int.reduceLE, Int.reduceLT, Int.reduceToNat, add_mk, reduceCtorEq, List.mem_range'_1, true_and, and_true, and_false, false_and, Nat.reduceLT, Nat.reduceLeDiff, tyF]
    try simp only [fzv]
    try simp (config := {maxSteps := 1000000}) only [↓zvD, zvU, ↓up_apply, ↓hv_apply, ↓upO_some, ↓upO_none, ↓ev_tmp, ↓ev_const, ↓ev_func, ↓ev_global, init, Nat.reduceEqDiff, Nat.reduceAdd, Nat.reduceMul, Nat.reduceSub, ↓reduceIte, Int.reduceEq, Int.reduceNe, Nat.reduceLeDiff, one, Value.cells, Int.reduceLE, Int.reduceLT, Int.reduceToNat, add_mk, reduceCtorEq, List.mem_range'_1, true_and, and_true, and_false, false_and, Nat.reduceLT, Nat.reduceLeDiff, tyF]
    exact ⟨fun _ => rfl, fun h => absurd (hbd.symm.trans h) (by simp), fm⟩
  | false =>
    have cb := fR.cell 1
    simp only [hbd, List.getElem?_cons_succ, List.getElem?_cons_zero] at cb
    have ca := fR.cell 0
    simp only [List.getElem?_cons_zero] at ca
    have fps := fm.size
    try simp (config := {maxSteps := 1000000}) only [↓zvD, zvU, ↓up_apply, ↓hv_apply, ↓upO_some, ↓upO_none, ↓ev_tmp, ↓ev_const, ↓ev_func, ↓ev_global, init, Nat.reduceEqDiff, Nat.reduceAdd, Nat.reduceMul, Nat.reduceSub, ↓reduceIte, Int.reduceEq, Int.reduceNe, Nat.reduceLeDiff, one, Value.cells, Int.reduceLE, Int.reduceLT, Int.reduceToNat, add_mk, reduceCtorEq, List.mem_range'_1, true_and, and_true, and_false, false_and, Nat.reduceLT, Nat.reduceLeDiff, tyF]
    simp only [cb]
    try simp (config := {maxSteps := 1000000}) only [↓zvD, zvU, ↓up_apply, ↓hv_apply, ↓upO_some, ↓upO_none, ↓ev_tmp, ↓ev_const, ↓ev_func, ↓ev_global, init, Nat.reduceEqDiff, Nat.reduceAdd, Nat.reduceMul, Nat.reduceSub, ↓reduceIte, Int.reduceEq, Int.reduceNe, Nat.reduceLeDiff, one, Value.cells, Int.reduceLE, Int.reduceLT, Int.reduceToNat, add_mk, reduceCtorEq, List.mem_range'_1, true_and, and_true, and_false, false_and, Nat.reduceLT, Nat.reduceLeDiff, tyF]
    refine draw_name fun K hK => ?_
    refine draw_finB z (by omega) 86 ((opZ 6).cells (.slice none (opZ 6).b.length 0)) 8 [[], [], [1], [], [3], [3, 4], [1, 2, 3, 4, 5], [0], [0, 1, 2, 3, 4, 5, 6, 7]] [(0, RV.IsV (.agg ((opZ 6).cells (.slice none (opZ 6).b.length 0)).toArray)), (4, RV.IsV (.slice Ar (nrm s).length cr)), (7, fun _ w' => Blk w' z 86 ((opZ 6).cells (.slice none (opZ 6).b.length 0)))] mixed (by kernel_rfl) (by kernel_rfl) ?_ ?_
    · intro y hy v' a' b' hab hya
      simp only [List.mem_cons, List.not_mem_nil, or_false] at hy
      rcases hy with rfl | rfl | rfl
      · exact hya
      · exact hya
      · exact hab.done hya
    try simp (config := {maxSteps := 1000000}) only [↓zvD, zvU, ↓zqD, ↓up_apply, ↓hv_apply, ↓upO_some, ↓upO_none, ↓ev_tmp, ↓ev_const, ↓ev_func, ↓ev_global, init, Nat.reduceEqDiff, Nat.reduceAdd, Nat.reduceMul, Nat.reduceSub, ↓reduceIte, Int.reduceEq, Int.reduceNe, Nat.reduceLeDiff, one, Value.cells, Int.reduceLE, Int.reduceLT, Int.reduceToNat, add_mk, reduceCtorEq, List.mem_range'_1, true_and, and_true, and_false, false_and, Nat.reduceLT, Nat.reduceLeDiff, tyF]
    refine ⟨fun w1' hf => ?_, ?_⟩
    · have q1 := (hf.done fp).all_eq 49 (SOp.len (opZ_fit 6) _)
      simp only [q1]
      try simp (config := {maxSteps := 1000000}) only [↓zvD, zvU, ↓zqD, ↓up_apply, ↓hv_apply, ↓upO_some, ↓upO_none, ↓ev_tmp, ↓ev_const, ↓ev_func, ↓ev_global, init, Nat.reduceEqDiff, Nat.reduceAdd, Nat.reduceMul, Nat.reduceSub, ↓reduceIte, Int.reduceEq, Int.reduceNe, Nat.reduceLeDiff, one, Value.cells, Int.reduceLE, Int.reduceLT, Int.reduceToNat, add_mk, reduceCtorEq, List.mem_range'_1, true_and, and_true, and_false, false_and, Nat.reduceLT, Nat.reduceLeDiff, tyF]
      exact ⟨Fin.refl _ _ _ _, rfl⟩
    rintro _ ⟨w1', hf1, rfl⟩
    try simp (config := {maxSteps := 1000000}) only [↓zvD, zvU, ↓zqD, ↓up_apply, ↓hv_apply, ↓upO_some, ↓upO_none, ↓ev_tmp, ↓ev_const, ↓ev_func, ↓ev_global, init, Nat.reduceEqDiff, Nat.reduceAdd, Nat.reduceMul, Nat.reduceSub, ↓reduceIte, Int.reduceEq, Int.reduceNe, Nat.reduceLeDiff, one, Value.cells, Int.reduceLE, Int.reduceLT, Int.reduceToNat, add_mk, reduceCtorEq, List.mem_range'_1, true_and, and_true, and_false, false_and, Nat.reduceLT, Nat.reduceLeDiff, tyF]
    refine ⟨fun w1'' hf => ?_, ?_⟩
    · have q1 := (hf.blk _ _ _ (by decide) fR).cell 0
      simp only [List.getElem?_cons_zero] at q1
      simp only [q1]
      try simp (config := {maxSteps := 1000000}) only [↓zvD, zvU, ↓zqD, ↓up_apply, ↓hv_apply, ↓upO_some, ↓upO_none, ↓ev_tmp, ↓ev_const, ↓ev_func, ↓ev_global, init, Nat.reduceEqDiff, Nat.reduceAdd, Nat.reduceMul, Nat.reduceSub, ↓reduceIte, Int.reduceEq, Int.reduceNe, Nat.reduceLeDiff, one, Value.cells, Int.reduceLE, Int.reduceLT, Int.reduceToNat, add_mk, reduceCtorEq, List.mem_range'_1, true_and, and_true, and_false, false_and, Nat.reduceLT, Nat.reduceLeDiff, tyF]
      exact ⟨Fin.refl _ _ _ _, rfl⟩
    rintro _ ⟨w2', hf2, _, rfl⟩
    have el : IntKind.i64.wrap (((x :: rest).length : Int) - ((nrm s).length : Int)) = ((rest.length + 1 : Nat) : Int) - ((s).rest.length : Int) := by
      rw [nrm_ok hbd, List.length_cons]
      have : (s).rest.length ≤ rest.length := by rw [← hsl]; exact hrest
      exact w64 (by omega) (by omega)
    try simp (config := {maxSteps := 1000000}) only [↓zvD, zvU, ↓zqD, ↓up_apply, ↓hv_apply, ↓upO_some, ↓upO_none, ↓ev_tmp, ↓ev_const, ↓ev_func, ↓ev_global, init, Nat.reduceEqDiff, Nat.reduceAdd, Nat.reduceMul, Nat.reduceSub, ↓reduceIte, Int.reduceEq, Int.reduceNe, Nat.reduceLeDiff, one, Value.cells, Int.reduceLE, Int.reduceLT, Int.reduceToNat, add_mk, reduceCtorEq, List.mem_range'_1, true_and, and_true, and_false, false_and, Nat.reduceLT, Nat.reduceLeDiff, tyF, el]
    refine ⟨fun w3' hf _ => ?_, ?_⟩
    · obtain ⟨cs3, g3, g4⟩ := hf.some ⟨_, fz, by rw [SOp.len (opZ_fit 0), SOp.len (opZ_fit 6)]⟩
      refine st_all g3 (by simp [SOp.len (opZ_fit 6)]) (by rw [g4, SOp.len (opZ_fit 6)]) (fun u hu => SOp.one (opZ 6) (sl := .slice none (opZ 6).b.length 0) rfl u hu) fun w4' k1' k2' => ?_
      rw [List.toList_toArray] at k2'
      exact ⟨Fin.of_wr k1' g3 k2' (Nat.le_refl _), k2'⟩
    rintro _ ⟨w3', hf3, _, fz3⟩
    try simp (config := {maxSteps := 1000000}) only [↓zvD, zvU, ↓zqD, ↓up_apply, ↓hv_apply, ↓upO_some, ↓upO_none, ↓ev_tmp, ↓ev_const, ↓ev_func, ↓ev_global, init, Nat.reduceEqDiff, Nat.reduceAdd, Nat.reduceMul, Nat.reduceSub, ↓reduceIte, Int.reduceEq, Int.reduceNe, Nat.reduceLeDiff, one, Value.cells, Int.reduceLE, Int.reduceLT, Int.reduceToNat, add_mk, reduceCtorEq, List.mem_range'_1, true_and, and_true, and_false, false_and, Nat.reduceLT, Nat.reduceLeDiff, tyF, el]
    intro w4' hf4 hd4
    have fz4 : Blk w4' z 86 ((opZ 6).cells (.slice none (opZ 6).b.length 0)) := hd4 (7, fun w' => Blk w' z 86 ((opZ 6).cells (.slice none (opZ 6).b.length 0))) (by simp)
    have fzv := fz4.all_eq 49 (SOp.len (opZ_fit 6) _)
    try rw [stop1]
    try simp (config := {maxSteps := 1000000}) only [↓zvD, zvU, ↓up_apply, ↓hv_apply, ↓upO_some, ↓upO_none, ↓ev_tmp, ↓ev_const, ↓ev_func, ↓ev_global, init, Nat.reduceEqDiff, Nat.reduceAdd, Nat.reduceMul, Nat.reduceSub, ↓reduceIte, Int.reduceEq, Int.reduceNe, Nat.reduceLeDiff, one, Value.cells, Int.reduceLE, Int.reduceLT, Int.reduceToNat, add_mk, reduceCtorEq, List.mem_range'_1, true_and, and_true, and_false, false_and, Nat.reduceLT, Nat.reduceLeDiff, tyF, el]
    refine hK _ _ ?_
    clear hK K
    try simp (config := {maxSteps := 1000000}) only [↓zvD, zvU, ↓up_apply, ↓hv_apply, ↓upO_some, ↓upO_none, ↓ev_tmp, ↓ev_const, ↓ev_func, ↓ev_global, init, Nat.reduceEqDiff, Nat.reduceAdd, Nat.reduceMul, Nat.reduceSub, ↓reduceIte, Int.reduceEq, Int.reduceNe, Nat.reduceLeDiff, one, Value.cells, Int.reduceLE, Int.reduceLT, Int.reduceToNat, add_mk, reduceCtorEq, List.mem_range'_1, true_and, and_true, and_false, false_and, Nat.reduceLT, Nat.reduceLeDiff, tyF, p_nil]
    try simp only [fzv]
    try simp (config := {maxSteps := 1000000}) only [↓zvD, zvU, ↓up_apply, ↓hv_apply, ↓upO_some, ↓upO_none, ↓ev_tmp, ↓ev_const, ↓ev_func, ↓ev_global, init, Nat.reduceEqDiff, Nat.reduceAdd, Nat.reduceMul, Nat.reduceSub, ↓reduceIte, Int.reduceEq, Int.reduceNe, Nat.reduceLeDiff, one, Value.cells, Int.reduceLE, Int.reduceLT, Int.reduceToNat, add_mk, reduceCtorEq, List.mem_range'_1, true_and, and_true, and_false, false_and, Nat.reduceLT, Nat.reduceLeDiff, tyF]
    have hmw : More w w4' := Below.trans fm (by rw [hzz]; exact hf4.below)
    exact ⟨fun h => absurd (hbd.symm.trans h) (by simp), fun _ => ⟨none, 0, rfl, fA, (by simp [opZ])⟩, hmw⟩
theorem one_8 (w0 w : World) (hw0 : More w0 w) (A : Option Addr) (x : UInt8) (rest : List UInt8) (c : Nat) (hA : Bs w0 A (x :: rest)) (hc : (x :: rest).length ≤ c) (hl : rest.length ≤ 1000000) (hkk : (x.toNat : Int) = 8) :
    Ret Try.prog 86 #[.slice A (x :: rest).length c] w (OneR w0 w (rest.length + 1) (takeM x.toNat ⟨rest, false⟩)) := by
  refine ret_of Try.func86 rfl (by kernel_rfl) (Nat.le_of_ble_eq_true (by kernel_rfl)) ?_
  obtain ⟨a, rfl⟩ := hA.isAt (by simp)
  have hx0 : ∀ w', More w w' → w'.cell? (a.add 0) = some (.int .u8 x.toNat) := fun w' h => by
    obtain ⟨b, hb, h0⟩ := (hA.more (hw0.trans h)) 0 (byteV x) rfl
    cases hb
    exact h0
  have hm1 := more_alloc w (.cells ((opZ 0).cells (.slice none 0 0)).toArray 86)
  have hb1 := Blk.new w 86 ((opZ 0).cells (.slice none 0 0)).toArray
  have s1 := size_alloc w (.cells ((opZ 0).cells (.slice none 0 0)).toArray 86)
  have c1 := hx0 _ hm1
  simp (config := {maxSteps := 1000000}) only [↓zvD, zvU, ↓up_apply, ↓hv_apply, ↓upO_some, ↓upO_none, ↓ev_tmp, ↓ev_const, ↓ev_func, ↓ev_global, init, Nat.reduceEqDiff, Nat.reduceAdd, Nat.reduceMul, Nat.reduceSub, ↓reduceIte, Int.reduceEq, Int.reduceNe, Nat.reduceLeDiff, one, Value.cells, Int.reduceLE, Int.reduceLT, Int.reduceToNat, add_mk, reduceCtorEq, List.mem_range'_1, true_and, and_true, and_false, false_and, Nat.reduceLT, Nat.reduceLeDiff, tyF, zerROp]
  generalize w.alloc (.cells ((opZ 0).cells (.slice none 0 0)).toArray 86) = w1 at hm1 hb1 s1 c1 ⊢
  refine ⟨by simp only [List.length_cons]; omega, ?_⟩
  simp (config := {maxSteps := 1000000}) only [↓zvD, zvU, ↓up_apply, ↓hv_apply, ↓upO_some, ↓upO_none, ↓ev_tmp, ↓ev_const, ↓ev_func, ↓ev_global, init, Nat.reduceEqDiff, Nat.reduceAdd, Nat.reduceMul, Nat.reduceSub, ↓reduceIte, Int.reduceEq, Int.reduceNe, Nat.reduceLeDiff, one, Value.cells, Int.reduceLE, Int.reduceLT, Int.reduceToNat, add_mk, reduceCtorEq, List.mem_range'_1, true_and, and_true, and_false, false_and, Nat.reduceLT, Nat.reduceLeDiff, tyF, c1, rop_build x.toNat w1, zerROp]
  have hm2 := more_alloc w1 (.cells ((opZ 0).cells (.slice none 0 0)).toArray 86)
  have hb2 := Blk.new w1 86 ((opZ 0).cells (.slice none 0 0)).toArray
  have s2 := size_alloc w1 (.cells ((opZ 0).cells (.slice none 0 0)).toArray 86)
  generalize w1.alloc (.cells ((opZ 0).cells (.slice none 0 0)).toArray 86) = w2 at hm2 hb2 s2 ⊢
  rw [List.toList_toArray] at hb1 hb2
  have hz2 := hb1.more hm2
  replace hm2 := hm1.trans hm2
  refine st_all hb2 (by simp [SOp.len (opZ_fit _)]) (SOp.len (opZ_fit 0) _) (fun u hu => SOp.one (opZ x.toNat) (sl := .slice none 0 0) rfl u hu) fun w3 j1 j2 => ?_
  rw [List.toList_toArray] at j2
  have hz3 := j1.blk hz2 (by omega)
  have s3 := j1.size
  have hm3 : More w w3 := j1.below hm2 (by omega)
  have g1 : (1 : Nat) ≤ (x :: rest).length := by simp
  simp (config := {maxSteps := 1000000}) only [↓zvD, zvU, ↓up_apply, ↓hv_apply, ↓upO_some, ↓upO_none, ↓ev_tmp, ↓ev_const, ↓ev_func, ↓ev_global, init, Nat.reduceEqDiff, Nat.reduceAdd, Nat.reduceMul, Nat.reduceSub, ↓reduceIte, Int.reduceEq, Int.reduceNe, Nat.reduceLeDiff, one, Value.cells, Int.reduceLE, Int.reduceLT, Int.reduceToNat, add_mk, reduceCtorEq, List.mem_range'_1, true_and, and_true, and_false, false_and, Nat.reduceLT, Nat.reduceLeDiff, tyF, rin_build _ _ _ w3, zer51, g1]
  have hm4 := more_alloc w3 (.cells #[.slice none 0 0, .bool false] 51)
  have hb4 := Blk.new w3 51 #[.slice none 0 0, .bool false]
  have s4 := size_alloc w3 (.cells #[.slice none 0 0, .bool false] 51)
  generalize w3.alloc (.cells #[.slice none 0 0, .bool false] 51) = w4 at hm4 hb4 s4 ⊢
  refine st_all hb4 rfl rfl (by intro u hu; simp at hu; rcases hu with rfl | rfl <;> rfl) fun w5 k1 k2 => ?_
  rw [List.toList_toArray] at k2
  have hz5 := k1.blk (hz3.more hm4) (by omega)
  have hp5 := k1.blk (j2.more hm4) (by omega)
  have s5 := k1.size
  have hm5 : More w w5 := k1.below (hm3.trans hm4) (by omega)
  have hRI5 : RIs w0 ⟨rest, false⟩ (RV.adv (some a) c 1 1) (c - 1) := by
    refine ⟨?_, by rw [nrm_ok rfl]; simp at hc; show rest.length ≤ _; omega⟩
    rw [nrm_ok rfl]
    exact Cs.advB (k := 1) hA hc
  have hR5 : Blk w5 w3.heap.size 51 [.slice (RV.adv (some a) c 1 1) (nrm ⟨rest, false⟩).length (c - 1), .bool (InM.mk rest false).bad] := k2
  have hsl : (InM.mk rest false).rest.length = rest.length := rfl
  have hkx : (x.toNat : Int) = x.toNat := rfl
  generalize hAr : RV.adv (some a) c 1 1 = Ar at hRI5 hR5
  generalize hcr : c - 1 = cr at hRI5 hR5
  generalize hss : InM.mk rest false = s at hRI5 hR5 hsl ⊢
  generalize hzz : w.heap.size = z at *
  generalize hpp : w1.heap.size = p at *
  generalize hrr : w3.heap.size = r at *
  have hrest := takeM_rest x.toNat s
  have kc := hp5.cell 0
  have kc : w5.cell? ⟨p, 0, none⟩ = some (.int .u8 x.toNat) := by rw [hp5.cell]; rfl
  generalize hk : (x.toNat : Int) = k at *
  unfold takeM at hrest ⊢
  have hv5 := hR5.all_eq 2 rfl
  subst hkk
  rw [if_neg (show ¬ ((8 : Int) = 1) by decide), if_neg (show ¬ ((8 : Int) = 2) by decide), if_neg (show ¬ ((8 : Int) = 4) by decide), if_neg (show ¬ ((8 : Int) = 5) by decide), if_neg (show ¬ ((8 : Int) = 7) by decide), if_pos (show ((8 : Int) = 3 ∨ (8 : Int) = 6 ∨ (8 : Int) = 8) by decide)] at hrest ⊢
  simp (config := {maxSteps := 1000000}) only [↓zvD, zvU, ↓up_apply, ↓hv_apply, ↓upO_some, ↓upO_none, ↓ev_tmp, ↓ev_const, ↓ev_func, ↓ev_global, init, Nat.reduceEqDiff, Nat.reduceAdd, Nat.reduceMul, Nat.reduceSub, ↓reduceIte, Int.reduceEq, Int.reduceNe, Nat.reduceLeDiff, one, Value.cells, Int.reduceLE, Int.reduceLT, Int.reduceToNat, add_mk, reduceCtorEq, List.mem_range'_1, true_and, and_true, and_false, false_and, Nat.reduceLT, Nat.reduceLeDiff, tyF, kc]
  have fz := hz5
  have fp := hp5
  have fR := hR5
  have fm := hm5
  have fA : Bs w0 (none : Option Addr) (opZ 8).b := (Cs.nil w0 _)
  cases hbd : (s).bad with
  | true =>
    have cb := fR.cell 1
    simp only [hbd, List.getElem?_cons_succ, List.getElem?_cons_zero] at cb
    try simp (config := {maxSteps := 1000000}) only [↓zvD, zvU, ↓up_apply, ↓hv_apply, ↓upO_some, ↓upO_none, ↓ev_tmp, ↓ev_const, ↓ev_func, ↓ev_global, init, Nat.reduceEqDiff, Nat.reduceAdd, Nat.reduceMul, Nat.reduceSub, ↓reduceIte, Int.reduceEq, Int.reduceNe, Nat.reduceLeDiff, one, Value.cells, Int.reduceLE, Int.reduceLT, Int.reduceToNat, add_mk, reduceCtorEq, List.mem_range'_1, true_and, and_true, and_false, false_and, Nat.reduceLT, Nat.reduceLeDiff, tyF]
    simp only [cb]
    simp (config := {maxSteps := 1000000}) only [↓zvD, zvU, ↓up_apply, ↓hv_apply, ↓upO_some, ↓upO_none, ↓ev_tmp, ↓ev_const, ↓ev_func, ↓ev_global, init, Nat.reduceEqDiff, Nat.reduceAdd, Nat.reduceMul, Nat.reduceSub, ↓reduceIte, Int.reduceEq, Int.reduceNe, Nat.reduceLeDiff, one, Value.cells, Int.reduceLE, Int.reduceLT, Int.reduceToNat, add_mk, reduceCtorEq, List.mem_range'_1, true_and, and_true, and_false, false_and, Nat.reduceLT, Nat.reduceLeDiff, tyF]
    rw [rop_build0 w]
    try simp (config := {maxSteps := 1000000}) only [↓zvD, zvU, ↓up_apply, ↓hv_apply, ↓upO_some, ↓upO_none, ↓ev_tmp, ↓ev_const, ↓ev_func, ↓ev_global, init, Nat.reduceEqDiff, Nat.reduceAdd, Nat.reduceMul, Nat.reduceSub, ↓reduceIte, Int.reduceEq, Int.reduceNe, Nat.reduceLeDiff, one, Value.cells, Int.reduceLE, Int.reduceLT, Int.reduceToNat, add_mk, reduceCtorEq, List.mem_range'_1, true_and, and_true, and_false, false_and, Nat.reduceLT, Nat.reduceLeDiff, tyF]
    rw [st_same_eq fz (SOp.len (opZ_fit 0) _) (SOp.one (opZ 0) (sl := .slice none 0 0) rfl)]
    have fzv := fz.all_eq 49 (SOp.len (opZ_fit 0) _)
    try simp (config := {maxSteps := 1000000}) only [↓zvD, zvU, ↓up_apply, ↓hv_apply, ↓upO_some, ↓upO_none, ↓ev_tmp, ↓ev_const, ↓ev_func, ↓ev_global, init, Nat.reduceEqDiff, Nat.reduceAdd, Nat.reduceMul, Nat.reduceSub, ↓reduceIte, Int.reduceEq, Int.reduceNe, Nat.reduceLeDiff, one, Value.cells, Int.reduceLE, Int.reduceLT, Int.reduceToNat, add_mk, reduceCtorEq, List.mem_range'_1, true_and, and_true, and_false, false_and, Nat.reduceLT, Nat.reduceLeDiff, tyF]
    try simp only [fzv]
    try simp (config := {maxSteps := 1000000}) only [↓zvD, zvU, ↓up_apply, ↓hv_apply, ↓upO_some, ↓upO_none, ↓ev_tmp, ↓ev_const, ↓ev_func, ↓ev_global, init, Nat.reduceEqDiff, Nat.reduceAdd, Nat.reduceMul, Nat.reduceSub, ↓reduceIte, Int.reduceEq, Int.reduceNe, Nat.reduceLeDiff, one, Value.cells, Int.reduceLE, Int.reduceLT, Int.reduceToNat, add_mk, reduceCtorEq, List.mem_range'_1, true_and, and_true, and_false, false_and, Nat.reduceLT, Nat.reduceLeDiff, tyF]
    exact ⟨fun _ => rfl, fun h => absurd (hbd.symm.trans h) (by simp), fm⟩
  | false =>
    have cb := fR.cell 1
    simp only [hbd, List.getElem?_cons_succ, List.getElem?_cons_zero] at cb
    have ca := fR.cell 0
    simp only [List.getElem?_cons_zero] at ca
    have fps := fm.size
    try simp (config := {maxSteps := 1000000}) only [↓zvD, zvU, ↓up_apply, ↓hv_apply, ↓upO_some, ↓upO_none, ↓ev_tmp, ↓ev_const, ↓ev_func, ↓ev_global, init, Nat.reduceEqDiff, Nat.reduceAdd, Nat.reduceMul, Nat.reduceSub, ↓reduceIte, Int.reduceEq, Int.reduceNe, Nat.reduceLeDiff, one, Value.cells, Int.reduceLE, Int.reduceLT, Int.reduceToNat, add_mk, reduceCtorEq, List.mem_range'_1, true_and, and_true, and_false, false_and, Nat.reduceLT, Nat.reduceLeDiff, tyF]
    simp only [cb]
    try simp (config := {maxSteps := 1000000}) only [↓zvD, zvU, ↓up_apply, ↓hv_apply, ↓upO_some, ↓upO_none, ↓ev_tmp, ↓ev_const, ↓ev_func, ↓ev_global, init, Nat.reduceEqDiff, Nat.reduceAdd, Nat.reduceMul, Nat.reduceSub, ↓reduceIte, Int.reduceEq, Int.reduceNe, Nat.reduceLeDiff, one, Value.cells, Int.reduceLE, Int.reduceLT, Int.reduceToNat, add_mk, reduceCtorEq, List.mem_range'_1, true_and, and_true, and_false, false_and, Nat.reduceLT, Nat.reduceLeDiff, tyF]
    refine draw_name fun K hK => ?_
    refine draw_finB z (by omega) 86 ((opZ 8).cells (.slice none (opZ 8).b.length 0)) 8 [[], [], [1], [], [3], [3, 4], [1, 2, 3, 4, 5], [0], [0, 1, 2, 3, 4, 5, 6, 7]] [(0, RV.IsV (.agg ((opZ 8).cells (.slice none (opZ 8).b.length 0)).toArray)), (4, RV.IsV (.slice Ar (nrm s).length cr)), (7, fun _ w' => Blk w' z 86 ((opZ 8).cells (.slice none (opZ 8).b.length 0)))] mixed (by kernel_rfl) (by kernel_rfl) ?_ ?_
    · intro y hy v' a' b' hab hya
      simp only [List.mem_cons, List.not_mem_nil, or_false] at hy
      rcases hy with rfl | rfl | rfl
      · exact hya
      · exact hya
      · exact hab.done hya
    try simp (config := {maxSteps := 1000000}) only [↓zvD, zvU, ↓zqD, ↓up_apply, ↓hv_apply, ↓upO_some, ↓upO_none, ↓ev_tmp, ↓ev_const, ↓ev_func, ↓ev_global, init, Nat.reduceEqDiff, Nat.reduceAdd, Nat.reduceMul, Nat.reduceSub, ↓reduceIte, Int.reduceEq, Int.reduceNe, Nat.reduceLeDiff, one, Value.cells, Int.reduceLE, Int.reduceLT, Int.reduceToNat, add_mk, reduceCtorEq, List.mem_range'_1, true_and, and_true, and_false, false_and, Nat.reduceLT, Nat.reduceLeDiff, tyF]
    refine ⟨fun w1' hf => ?_, ?_⟩
    · have q1 := (hf.done fp).all_eq 49 (SOp.len (opZ_fit 8) _)
      simp only [q1]
      try simp (config := {maxSteps := 1000000}) only [↓zvD, zvU, ↓zqD, ↓up_apply, ↓hv_apply, ↓upO_some, ↓upO_none, ↓ev_tmp, ↓ev_const, ↓ev_func, ↓ev_global, init, Nat.reduceEqDiff, Nat.reduceAdd, Nat.reduceMul, Nat.reduceSub, ↓reduceIte, Int.reduceEq, Int.reduceNe, Nat.reduceLeDiff, one, Value.cells, Int.reduceLE, Int.reduceLT, Int.reduceToNat, add_mk, reduceCtorEq, List.mem_range'_1, true_and, and_true, and_false, false_and, Nat.reduceLT, Nat.reduceLeDiff, tyF]
      exact ⟨Fin.refl _ _ _ _, rfl⟩
    rintro _ ⟨w1', hf1, rfl⟩
    try simp (config := {maxSteps := 1000000}) only [↓zvD, zvU, ↓zqD, ↓up_apply, ↓hv_apply, ↓upO_some, ↓upO_none, ↓ev_tmp, ↓ev_const, ↓ev_func, ↓ev_global, init, Nat.reduceEqDiff, Nat.reduceAdd, Nat.reduceMul, Nat.reduceSub, ↓reduceIte, Int.reduceEq, Int.reduceNe, Nat.reduceLeDiff, one, Value.cells, Int.reduceLE, Int.reduceLT, Int.reduceToNat, add_mk, reduceCtorEq, List.mem_range'_1, true_and, and_true, and_false, false_and, Nat.reduceLT, Nat.reduceLeDiff, tyF]
    refine ⟨fun w1'' hf => ?_, ?_⟩
    · have q1 := (hf.blk _ _ _ (by decide) fR).cell 0
      simp only [List.getElem?_cons_zero] at q1
      simp only [q1]
      try simp (config := {maxSteps := 1000000}) only [↓zvD, zvU, ↓zqD, ↓up_apply, ↓hv_apply, ↓upO_some, ↓upO_none, ↓ev_tmp, ↓ev_const, ↓ev_func, ↓ev_global, init, Nat.reduceEqDiff, Nat.reduceAdd, Nat.reduceMul, Nat.reduceSub, ↓reduceIte, Int.reduceEq, Int.reduceNe, Nat.reduceLeDiff, one, Value.cells, Int.reduceLE, Int.reduceLT, Int.reduceToNat, add_mk, reduceCtorEq, List.mem_range'_1, true_and, and_true, and_false, false_and, Nat.reduceLT, Nat.reduceLeDiff, tyF]
      exact ⟨Fin.refl _ _ _ _, rfl⟩
    rintro _ ⟨w2', hf2, _, rfl⟩
    have el : IntKind.i64.wrap (((x :: rest).length : Int) - ((nrm s).length : Int)) = ((rest.length + 1 : Nat) : Int) - ((s).rest.length : Int) := by
      rw [nrm_ok hbd, List.length_cons]
      have : (s).rest.length ≤ rest.length := by rw [← hsl]; exact hrest
      exact w64 (by omega) (by omega)
    try simp (config := {maxSteps := 1000000}) only [↓zvD, zvU, ↓zqD, ↓up_apply, ↓hv_apply, ↓upO_some, ↓upO_none, ↓ev_tmp, ↓ev_const, ↓ev_func, ↓ev_global, init, Nat.reduceEqDiff, Nat.reduceAdd, Nat.reduceMul, Nat.reduceSub, ↓reduceIte, Int.reduceEq, Int.reduceNe, Nat.reduceLeDiff, one, Value.cells, Int.reduceLE, Int.reduceLT, Int.reduceToNat, add_mk, reduceCtorEq, List.mem_range'_1, true_and, and_true, and_false, false_and, Nat.reduceLT, Nat.reduceLeDiff, tyF, el]
    refine ⟨fun w3' hf _ => ?_, ?_⟩
    · obtain ⟨cs3, g3, g4⟩ := hf.some ⟨_, fz, by rw [SOp.len (opZ_fit 0), SOp.len (opZ_fit 8)]⟩
      refine st_all g3 (by simp [SOp.len (opZ_fit 8)]) (by rw [g4, SOp.len (opZ_fit 8)]) (fun u hu => SOp.one (opZ 8) (sl := .slice none (opZ 8).b.length 0) rfl u hu) fun w4' k1' k2' => ?_
      rw [List.toList_toArray] at k2'
      exact ⟨Fin.of_wr k1' g3 k2' (Nat.le_refl _), k2'⟩
    rintro _ ⟨w3', hf3, _, fz3⟩
    try simp (config := {maxSteps := 1000000}) only [↓zvD, zvU, ↓zqD, ↓up_apply, ↓hv_apply, ↓upO_some, ↓upO_none, ↓ev_tmp, ↓ev_const, ↓ev_func, ↓ev_global, init, Nat.reduceEqDiff, Nat.reduceAdd, Nat.reduceMul, Nat.reduceSub, ↓reduceIte, Int.reduceEq, Int.reduceNe, Nat.reduceLeDiff, one, Value.cells, Int.reduceLE, Int.reduceLT, Int.reduceToNat, add_mk, reduceCtorEq, List.mem_range'_1, true_and, and_true, and_false, false_and, Nat.reduceLT, Nat.reduceLeDiff, tyF, el]
    intro w4' hf4 hd4
    have fz4 : Blk w4' z 86 ((opZ 8).cells (.slice none (opZ 8).b.length 0)) := hd4 (7, fun w' => Blk w' z 86 ((opZ 8).cells (.slice none (opZ 8).b.length 0))) (by simp)
    have fzv := fz4.all_eq 49 (SOp.len (opZ_fit 8) _)
    try rw [stop1]
    try simp (config := {maxSteps := 1000000}) only [↓zvD, zvU, ↓up_apply, ↓hv_apply, ↓upO_some, ↓upO_none, ↓ev_tmp, ↓ev_const, ↓ev_func, ↓ev_global, init, Nat.reduceEqDiff, Nat.reduceAdd, Nat.reduceMul, Nat.reduceSub, ↓reduceIte, Int.reduceEq, Int.reduceNe, Nat.reduceLeDiff, one, Value.cells, Int.reduceLE, Int.reduceLT, Int.reduceToNat, add_mk, reduceCtorEq, List.mem_range'_1, true_and, and_true, and_false, false_and, Nat.reduceLT, Nat.reduceLeDiff, tyF, el]
    refine hK _ _ ?_
    clear hK K
    try simp (config := {maxSteps := 1000000}) only [↓zvD, zvU, ↓up_apply, ↓hv_apply, ↓upO_some, ↓upO_none, ↓ev_tmp, ↓ev_const, ↓ev_func, ↓ev_global, init, Nat.reduceEqDiff, Nat.reduceAdd, Nat.reduceMul, Nat.reduceSub, ↓reduceIte, Int.reduceEq, Int.reduceNe, Nat.reduceLeDiff, one, Value.cells, Int.reduceLE, Int.reduceLT, Int.reduceToNat, add_mk, reduceCtorEq, List.mem_range'_1, true_and, and_true, and_false, false_and, Nat.reduceLT, Nat.reduceLeDiff, tyF, p_nil]
    try simp only [fzv]
    try simp (config := {maxSteps := 1000000}) only [↓zvD, zvU, ↓up_apply, ↓hv_apply, ↓upO_some, ↓upO_none, ↓ev_tmp, ↓ev_const, ↓ev_func, ↓ev_global, init, Nat.reduceEqDiff, Nat.reduceAdd, Nat.reduceMul, Nat.reduceSub, ↓reduceIte, Int.reduceEq, Int.reduceNe, Nat.reduceLeDiff, one, Value.cells, Int.reduceLE, Int.reduceLT, Int.reduceToNat, add_mk, reduceCtorEq, List.mem_range'_1, true_and, and_true, and_false, false_and, Nat.reduceLT, Nat.reduceLeDiff, tyF]
    have hmw : More w w4' := Below.trans fm (by rw [hzz]; exact hf4.below)
    exact ⟨fun h => absurd (hbd.symm.trans h) (by simp), fun _ => ⟨none, 0, rfl, fA, (by simp [opZ])⟩, hmw⟩
theorem one_n (w0 w : World) (hw0 : More w0 w) (A : Option Addr) (x : UInt8) (rest : List UInt8) (c : Nat) (hA : Bs w0 A (x :: rest)) (hc : (x :: rest).length ≤ c) (hl : rest.length ≤ 1000000) (h1 : ¬ (x.toNat : Int) = 1) (h2 : ¬ (x.toNat : Int) = 2) (h4 : ¬ (x.toNat : Int) = 4) (h5 : ¬ (x.toNat : Int) = 5) (h7 : ¬ (x.toNat : Int) = 7) (h3 : ¬ ((x.toNat : Int) = 3 ∨ (x.toNat : Int) = 6 ∨ (x.toNat : Int) = 8)) :
    Ret Try.prog 86 #[.slice A (x :: rest).length c] w (OneR w0 w (rest.length + 1) (takeM x.toNat ⟨rest, false⟩)) := by
  refine ret_of Try.func86 rfl (by kernel_rfl) (Nat.le_of_ble_eq_true (by kernel_rfl)) ?_
  obtain ⟨a, rfl⟩ := hA.isAt (by simp)
  have hx0 : ∀ w', More w w' → w'.cell? (a.add 0) = some (.int .u8 x.toNat) := fun w' h => by
    obtain ⟨b, hb, h0⟩ := (hA.more (hw0.trans h)) 0 (byteV x) rfl
    cases hb
    exact h0
  have hm1 := more_alloc w (.cells ((opZ 0).cells (.slice none 0 0)).toArray 86)
  have hb1 := Blk.new w 86 ((opZ 0).cells (.slice none 0 0)).toArray
  have s1 := size_alloc w (.cells ((opZ 0).cells (.slice none 0 0)).toArray 86)
  have c1 := hx0 _ hm1
  simp (config := {maxSteps := 1000000}) only [↓zvD, zvU, ↓up_apply, ↓hv_apply, ↓upO_some, ↓upO_none, ↓ev_tmp, ↓ev_const, ↓ev_func, ↓ev_global, init, Nat.reduceEqDiff, Nat.reduceAdd, Nat.reduceMul, Nat.reduceSub, ↓reduceIte, Int.reduceEq, Int.reduceNe, Nat.reduceLeDiff, one, Value.cells, Int.reduceLE, Int.reduceLT, Int.reduceToNat, add_mk, reduceCtorEq, List.mem_range'_1, true_and, and_true, and_false, false_and, Nat.reduceLT, Nat.reduceLeDiff, tyF, zerROp]
  generalize w.alloc (.cells ((opZ 0).cells (.slice none 0 0)).toArray 86) = w1 at hm1 hb1 s1 c1 ⊢
  refine ⟨by simp only [List.length_cons]; omega, ?_⟩
  simp (config := {maxSteps := 1000000}) only [↓zvD, zvU, ↓up_apply, ↓hv_apply, ↓upO_some, ↓upO_none, ↓ev_tmp, ↓ev_const, ↓ev_func, ↓ev_global, init, Nat.reduceEqDiff, Nat.reduceAdd, Nat.reduceMul, Nat.reduceSub, ↓reduceIte, Int.reduceEq, Int.reduceNe, Nat.reduceLeDiff, one, Value.cells, Int.reduceLE, Int.reduceLT, Int.reduceToNat, add_mk, reduceCtorEq, List.mem_range'_1, true_and, and_true, and_false, false_and, Nat.reduceLT, Nat.reduceLeDiff, tyF, c1, rop_build x.toNat w1, zerROp]
  have hm2 := more_alloc w1 (.cells ((opZ 0).cells (.slice none 0 0)).toArray 86)
  have hb2 := Blk.new w1 86 ((opZ 0).cells (.slice none 0 0)).toArray
  have s2 := size_alloc w1 (.cells ((opZ 0).cells (.slice none 0 0)).toArray 86)
  generalize w1.alloc (.cells ((opZ 0).cells (.slice none 0 0)).toArray 86) = w2 at hm2 hb2 s2 ⊢
  rw [List.toList_toArray] at hb1 hb2
  have hz2 := hb1.more hm2
  replace hm2 := hm1.trans hm2
  refine st_all hb2 (by simp [SOp.len (opZ_fit _)]) (SOp.len (opZ_fit 0) _) (fun u hu => SOp.one (opZ x.toNat) (sl := .slice none 0 0) rfl u hu) fun w3 j1 j2 => ?_
  rw [List.toList_toArray] at j2
  have hz3 := j1.blk hz2 (by omega)
  have s3 := j1.size
  have hm3 : More w w3 := j1.below hm2 (by omega)
  have g1 : (1 : Nat) ≤ (x :: rest).length := by simp
  simp (config := {maxSteps := 1000000}) only [↓zvD, zvU, ↓up_apply, ↓hv_apply, ↓upO_some, ↓upO_none, ↓ev_tmp, ↓ev_const, ↓ev_func, ↓ev_global, init, Nat.reduceEqDiff, Nat.reduceAdd, Nat.reduceMul, Nat.reduceSub, ↓reduceIte, Int.reduceEq, Int.reduceNe, Nat.reduceLeDiff, one, Value.cells, Int.reduceLE, Int.reduceLT, Int.reduceToNat, add_mk, reduceCtorEq, List.mem_range'_1, true_and, and_true, and_false, false_and, Nat.reduceLT, Nat.reduceLeDiff, tyF, rin_build _ _ _ w3, zer51, g1]
  have hm4 := more_alloc w3 (.cells #[.slice none 0 0, .bool false] 51)
  have hb4 := Blk.new w3 51 #[.slice none 0 0, .bool false]
  have s4 := size_alloc w3 (.cells #[.slice none 0 0, .bool false] 51)
  generalize w3.alloc (.cells #[.slice none 0 0, .bool false] 51) = w4 at hm4 hb4 s4 ⊢
  refine st_all hb4 rfl rfl (by intro u hu; simp at hu; rcases hu with rfl | rfl <;> rfl) fun w5 k1 k2 => ?_
  rw [List.toList_toArray] at k2
  have hz5 := k1.blk (hz3.more hm4) (by omega)
  have hp5 := k1.blk (j2.more hm4) (by omega)
  have s5 := k1.size
  have hm5 : More w w5 := k1.below (hm3.trans hm4) (by omega)
  have hRI5 : RIs w0 ⟨rest, false⟩ (RV.adv (some a) c 1 1) (c - 1) := by
    refine ⟨?_, by rw [nrm_ok rfl]; simp at hc; show rest.length ≤ _; omega⟩
    rw [nrm_ok rfl]
    exact Cs.advB (k := 1) hA hc
  have hR5 : Blk w5 w3.heap.size 51 [.slice (RV.adv (some a) c 1 1) (nrm ⟨rest, false⟩).length (c - 1), .bool (InM.mk rest false).bad] := k2
  have hsl : (InM.mk rest false).rest.length = rest.length := rfl
  have hkx : (x.toNat : Int) = x.toNat := rfl
  generalize hAr : RV.adv (some a) c 1 1 = Ar at hRI5 hR5
  generalize hcr : c - 1 = cr at hRI5 hR5
  generalize hss : InM.mk rest false = s at hRI5 hR5 hsl ⊢
  generalize hzz : w.heap.size = z at *
  generalize hpp : w1.heap.size = p at *
  generalize hrr : w3.heap.size = r at *
  have hrest := takeM_rest x.toNat s
  have kc := hp5.cell 0
  have kc : w5.cell? ⟨p, 0, none⟩ = some (.int .u8 x.toNat) := by rw [hp5.cell]; rfl
  generalize hk : (x.toNat : Int) = k at *
  unfold takeM at hrest ⊢
  have hv5 := hR5.all_eq 2 rfl
  rw [if_neg h1, if_neg h2, if_neg h4, if_neg h5, if_neg h7, if_neg h3] at hrest ⊢
  have h3a : ¬ k = 3 := fun h => h3 (.inl h)
  have h3b : ¬ k = 6 := fun h => h3 (.inr (.inl h))
  have h3c : ¬ k = 8 := fun h => h3 (.inr (.inr h))
  simp (config := {maxSteps := 1000000}) only [↓zvD, zvU, ↓up_apply, ↓hv_apply, ↓upO_some, ↓upO_none, ↓ev_tmp, ↓ev_const, ↓ev_func, ↓ev_global, init, Nat.reduceEqDiff, Nat.reduceAdd, Nat.reduceMul, Nat.reduceSub, ↓reduceIte, Int.reduceEq, Int.reduceNe, Nat.reduceLeDiff, one, Value.cells, Int.reduceLE, Int.reduceLT, Int.reduceToNat, add_mk, reduceCtorEq, List.mem_range'_1, true_and, and_true, and_false, false_and, Nat.reduceLT, Nat.reduceLeDiff, tyF, kc, h1, h2, h4, h5, h7, h3a, h3b, h3c]
  rw [rop_build0 w]
  try simp (config := {maxSteps := 1000000}) only [↓zvD, zvU, ↓up_apply, ↓hv_apply, ↓upO_some, ↓upO_none, ↓ev_tmp, ↓ev_const, ↓ev_func, ↓ev_global, init, Nat.reduceEqDiff, Nat.reduceAdd, Nat.reduceMul, Nat.reduceSub, ↓reduceIte, Int.reduceEq, Int.reduceNe, Nat.reduceLeDiff, one, Value.cells, Int.reduceLE, Int.reduceLT, Int.reduceToNat, add_mk, reduceCtorEq, List.mem_range'_1, true_and, and_true, and_false, false_and, Nat.reduceLT, Nat.reduceLeDiff, tyF]
  rw [st_same_eq hz5 (SOp.len (opZ_fit 0) _) (SOp.one (opZ 0) (sl := .slice none 0 0) rfl)]
  have fzv := hz5.all_eq 49 (SOp.len (opZ_fit 0) _)
  try simp (config := {maxSteps := 1000000}) only [↓zvD, zvU, ↓up_apply, ↓hv_apply, ↓upO_some, ↓upO_none, ↓ev_tmp, ↓ev_const, ↓ev_func, ↓ev_global, init, Nat.reduceEqDiff, Nat.reduceAdd, Nat.reduceMul, Nat.reduceSub, ↓reduceIte, Int.reduceEq, Int.reduceNe, Nat.reduceLeDiff, one, Value.cells, Int.reduceLE, Int.reduceLT, Int.reduceToNat, add_mk, reduceCtorEq, List.mem_range'_1, true_and, and_true, and_false, false_and, Nat.reduceLT, Nat.reduceLeDiff, tyF]
  try simp only [fzv]
  try simp (config := {maxSteps := 1000000}) only [↓zvD, zvU, ↓up_apply, ↓hv_apply, ↓upO_some, ↓upO_none, ↓ev_tmp, ↓ev_const, ↓ev_func, ↓ev_global, init, Nat.reduceEqDiff, Nat.reduceAdd, Nat.reduceMul, Nat.reduceSub, ↓reduceIte, Int.reduceEq, Int.reduceNe, Nat.reduceLeDiff, one, Value.cells, Int.reduceLE, Int.reduceLT, Int.reduceToNat, add_mk, reduceCtorEq, List.mem_range'_1, true_and, and_true, and_false, false_and, Nat.reduceLT, Nat.reduceLeDiff, tyF]
  exact ⟨fun _ => rfl, fun h => absurd ((show (InM.mk s.rest true).bad = true from rfl).symm.trans h) (by simp), hm5⟩
theorem ref_one (w0 w : World) (hw0 : More w0 w) (A : Option Addr) (x : UInt8) (rest : List UInt8) (c : Nat) (hA : Bs w0 A (x :: rest)) (hc : (x :: rest).length ≤ c) (hl : rest.length ≤ 1000000) :
    Ret Try.prog 86 #[.slice A (x :: rest).length c] w (OneR w0 w (rest.length + 1) (takeM x.toNat ⟨rest, false⟩)) := by
  by_cases h1 : (x.toNat : Int) = 1
  · exact one_1 w0 w hw0 A x rest c hA hc hl h1
  by_cases h2 : (x.toNat : Int) = 2
  · exact one_2 w0 w hw0 A x rest c hA hc hl h2
  by_cases h4 : (x.toNat : Int) = 4
  · exact one_4 w0 w hw0 A x rest c hA hc hl h4
  by_cases h5 : (x.toNat : Int) = 5
  · exact one_5 w0 w hw0 A x rest c hA hc hl h5
  by_cases h7 : (x.toNat : Int) = 7
  · exact one_7 w0 w hw0 A x rest c hA hc hl h7
  by_cases h3 : (x.toNat : Int) = 3 ∨ (x.toNat : Int) = 6 ∨ (x.toNat : Int) = 8
  · rcases h3 with h | h | h
    · exact one_3 w0 w hw0 A x rest c hA hc hl h
    · exact one_6 w0 w hw0 A x rest c hA hc hl h
    · exact one_8 w0 w hw0 A x rest c hA hc hl h
  · exact one_n w0 w hw0 A x rest c hA hc hl h1 h2 h4 h5 h7 h3
end Go.Proofs.Ytloiglnejffmkaa
