/-
  Layer 31: the laws ScriptReads and ScriptWrites.
-/
import Derived.Test.YtloiglnejffmkaaScrK
namespace Go.Proofs.Ytloiglnejffmkaa
open Go Go.RowKit Go.Proofs.RV
set_option linter.unusedSimpArgs false
set_option linter.unusedVariables false
set_option maxRecDepth 10000
set_option maxHeartbeats 4000000
theorem OpsO.toB {w : World} {B : Nat} {ms : List OpM} (h : OpsO w B ms) : OpsB w ms := fun m hm => ⟨(h m hm).1, Own.cs (h m hm).2, Own.le (h m hm).2⟩
theorem parse_three : parseM [3] = some [opZ 3] := by
  have h3 : takeM ((3 : UInt8).toNat : Int) ⟨[], false⟩ = (opZ 3, ⟨[], false⟩) := by
    show takeM 3 ⟨[], false⟩ = _
    unfold takeM
    simp
  rw [parseM, h3, if_neg (by simp), parseM]
  rfl
theorem law31_awake (w : World) : Ret Try.prog 44 #[] w fun v w' => v = .bool true ∧ More w w' := by
  refine ret_of Try.func44 rfl (by kernel_rfl) (Nat.le_of_ble_eq_true (by kernel_rfl)) ?_
  simp (config := {maxSteps := 1000000}) only [↓zvN, zvU, ↓up_apply, ↓hv_apply, ↓upO_some, ↓upO_none, ↓ev_tmp, ↓ev_const, ↓ev_func, ↓ev_global, init, Nat.reduceEqDiff, Nat.reduceAdd, Nat.reduceMul, Nat.reduceSub, ↓reduceIte, Int.reduceEq, Int.reduceNe, Nat.reduceLeDiff, one, Value.cells, Int.reduceLE, Int.reduceLT, Int.reduceToNat, add_mk, reduceCtorEq, List.mem_range'_1, true_and, and_true, and_false, false_and, Nat.reduceLT, Nat.reduceLeDiff, tyF]
  refine bslice (z := .int .u8 0) (cells := #[.int .u8 3]) Try.underlying22 byteE (by omega) (by have := bcells_list (z := .int .u8 0) [.int .u8 3] (by intro v hv; simp at hv; subst hv; rfl); exact this) ?_
  have hm1 := more_alloc w (.cells #[.int .u8 3] 5)
  have hb1 := Blk.new w 5 #[.int .u8 3]
  simp (config := {maxSteps := 1000000}) only [↓zvN, zvU, ↓up_apply, ↓hv_apply, ↓upO_some, ↓upO_none, ↓ev_tmp, ↓ev_const, ↓ev_func, ↓ev_global, init, Nat.reduceEqDiff, Nat.reduceAdd, Nat.reduceMul, Nat.reduceSub, ↓reduceIte, Int.reduceEq, Int.reduceNe, Nat.reduceLeDiff, one, Value.cells, Int.reduceLE, Int.reduceLT, Int.reduceToNat, add_mk, reduceCtorEq, List.mem_range'_1, true_and, and_true, and_false, false_and, Nat.reduceLT, Nat.reduceLeDiff, tyF]
  generalize w.alloc (.cells #[.int .u8 3] 5) = w1 at hm1 hb1 ⊢
  have hc1 : Bs w1 (some ⟨w.heap.size, 0, none⟩) [3] := hb1.cs
  refine call_ok Try.call45 (script_parse w1 _ [3] 1 hc1 (by simp)) ?_
  rintro v2 w2 ⟨hm2, _, hp⟩
  obtain ⟨ms, A2, c2, rfl, hms, _, ho2, hO2⟩ := hp _ parse_three
  have hO := hO2.toB
  obtain ⟨m, rfl⟩ : ∃ m, ms = [m] := by
    cases ms with
    | nil => simp at hms
    | cons m r => cases r with
      | nil => exact ⟨m, rfl⟩
      | cons _ _ => simp at hms
  have hmo : m.o = opZ 3 := by simpa using hms
  have hfit : m.o.Fit := (hO m (by simp)).1
  simp (config := {maxSteps := 1000000}) only [↓zvN, zvU, ↓up_apply, ↓hv_apply, ↓upO_some, ↓upO_none, ↓ev_tmp, ↓ev_const, ↓ev_func, ↓ev_global, init, Nat.reduceEqDiff, Nat.reduceAdd, Nat.reduceMul, Nat.reduceSub, ↓reduceIte, Int.reduceEq, Int.reduceNe, Nat.reduceLeDiff, one, Value.cells, Int.reduceLE, Int.reduceLT, Int.reduceToNat, add_mk, reduceCtorEq, List.mem_range'_1, true_and, and_true, and_false, false_and, Nat.reduceLT, Nat.reduceLeDiff, tyF]
  have hnum : ∀ m' ∈ [m], m'.o.Num := by
    intro m' hm'
    rw [List.mem_singleton.1 hm', hmo]
    exact ⟨by simp [opZ], by simp [opZ], by simp [opZ], by simp [opZ], by simp [opZ]⟩
  refine call_ok Try.call49 (script_encode w2 A2 [m] c2 ho2.cs hO hnum (by simp)) ?_
  rintro v3 w3 ⟨hm3, _, hs3⟩
  have hen : encM ([m].map OpM.o) = some [3] := by
    rw [hms]
    unfold encM
    rw [if_pos (by intro o ho; rw [List.mem_singleton.1 ho]; unfold okM; simp [opZ])]
    simp [putM, tailM, opZ]
    rfl
  obtain ⟨_, A3, c3, rfl, ho3⟩ := hs3 _ hen
  obtain ⟨a, rfl⟩ := ho2.cs.some_of (by simp [OpM.len hfit])
  have hcell : w3.cell? (a.add 0) = some (.int .u8 3) := by
    have := (ho2.cs.more hm3).elemA (s := 49) (i := 0) (m := m) (j := 0) (fun m' hm' => by rw [List.mem_singleton.1 hm']; exact OpM.len hfit) rfl (by omega)
    rw [Nat.zero_mul, add_add, Nat.add_zero] at this
    rw [this]
    show some (Value.int IntKind.u8 m.o.kind) = _
    rw [hmo]
    rfl
  simp (config := {maxSteps := 1000000}) only [↓zvN, zvU, ↓up_apply, ↓hv_apply, ↓upO_some, ↓upO_none, ↓ev_tmp, ↓ev_const, ↓ev_func, ↓ev_global, init, Nat.reduceEqDiff, Nat.reduceAdd, Nat.reduceMul, Nat.reduceSub, ↓reduceIte, Int.reduceEq, Int.reduceNe, Nat.reduceLeDiff, one, Value.cells, Int.reduceLE, Int.reduceLT, Int.reduceToNat, add_mk, reduceCtorEq, List.mem_range'_1, true_and, and_true, and_false, false_and, Nat.reduceLT, Nat.reduceLeDiff, tyF, List.length_cons, List.length_nil, Nat.zero_mul, add_add, hcell]
  exact (hm1.trans hm2).trans hm3
def ReadJ (n : Nat) (w : World) (v50 : Value) (w' : World) : Prop := ∃ k : Nat, v50 = .int .i64 k ∧ k ≤ n ∧ More w w'
theorem script_reads (w : World) (A : Option Addr) (l : List UInt8) (c : Nat) (hA : Bs w A l) (hc : l.length ≤ c) :
    Ret Try.prog 9 #[.slice A l.length c] w fun v w' => v = .bool true ∧ More w w' := by
  refine ret_of Try.func9 rfl (by kernel_rfl) (Nat.le_of_ble_eq_true (by kernel_rfl)) ?_
  simp (config := {maxSteps := 1000000}) only [↓zvN, zvU, ↓up_apply, ↓hv_apply, ↓upO_some, ↓upO_none, ↓ev_tmp, ↓ev_const, ↓ev_func, ↓ev_global, init, Nat.reduceEqDiff, Nat.reduceAdd, Nat.reduceMul, Nat.reduceSub, ↓reduceIte, Int.reduceEq, Int.reduceNe, Nat.reduceLeDiff, one, Value.cells, Int.reduceLE, Int.reduceLT, Int.reduceToNat, add_mk, reduceCtorEq, List.mem_range'_1, true_and, and_true, and_false, false_and, Nat.reduceLT, Nat.reduceLeDiff, tyF]
  refine call_ok Try.call44 (law31_awake w) ?_
  rintro _ w1 ⟨rfl, hm1⟩
  simp (config := {maxSteps := 1000000}) only [↓zvN, zvU, ↓up_apply, ↓hv_apply, ↓upO_some, ↓upO_none, ↓ev_tmp, ↓ev_const, ↓ev_func, ↓ev_global, init, Nat.reduceEqDiff, Nat.reduceAdd, Nat.reduceMul, Nat.reduceSub, ↓reduceIte, Int.reduceEq, Int.reduceNe, Nat.reduceLeDiff, one, Value.cells, Int.reduceLE, Int.reduceLT, Int.reduceToNat, add_mk, reduceCtorEq, List.mem_range'_1, true_and, and_true, and_false, false_and, Nat.reduceLT, Nat.reduceLeDiff, tyF]
  refine ⟨fun h9 => ?_, fun h9 => ?_⟩
  · refine call_ok Try.call44 (law31_awake w1) ?_
    rintro _ w2 ⟨rfl, hm2⟩
    simp (config := {maxSteps := 1000000}) only [↓zvN, zvU, ↓up_apply, ↓hv_apply, ↓upO_some, ↓upO_none, ↓ev_tmp, ↓ev_const, ↓ev_func, ↓ev_global, init, Nat.reduceEqDiff, Nat.reduceAdd, Nat.reduceMul, Nat.reduceSub, ↓reduceIte, Int.reduceEq, Int.reduceNe, Nat.reduceLeDiff, one, Value.cells, Int.reduceLE, Int.reduceLT, Int.reduceToNat, add_mk, reduceCtorEq, List.mem_range'_1, true_and, and_true, and_false, false_and, Nat.reduceLT, Nat.reduceLeDiff, tyF]
    exact hm1.trans hm2
  refine call_ok Try.call45 (script_parse w1 A l c (hA.more hm1) (by omega)) ?_
  rintro v2 w2 ⟨hm2, hno2, hy2⟩
  have hm12 := hm1.trans hm2
  -- what both read
  have hcase : (parseM l = none ∧ v2 = .tuple #[.slice none 0 0, .int .i64 2]) ∨ ∃ os ms A2 c2, parseM l = some os ∧ v2 = .tuple #[.slice A2 ms.length c2, .int .i64 0] ∧ ms.map OpM.o = os ∧ ms.length ≤ l.length ∧ Cs w2 A2 (ms.flatMap OpM.cells) ∧ OpsB w2 ms := by
    cases hp : parseM l with
    | none => exact .inl ⟨rfl, hno2 hp⟩
    | some os =>
      obtain ⟨ms, A2, c2, e1, e2, e3, e4, e5⟩ := hy2 os hp
      exact .inr ⟨os, ms, A2, c2, rfl, e1, e2, e3, e4.cs, e5.toB⟩
  rcases hcase with ⟨hp, rfl⟩ | ⟨os, ms, A2, c2, hp, rfl, hms, hml, hc2, hO2⟩
  · simp (config := {maxSteps := 1000000}) only [↓zvN, zvU, ↓up_apply, ↓hv_apply, ↓upO_some, ↓upO_none, ↓ev_tmp, ↓ev_const, ↓ev_func, ↓ev_global, init, Nat.reduceEqDiff, Nat.reduceAdd, Nat.reduceMul, Nat.reduceSub, ↓reduceIte, Int.reduceEq, Int.reduceNe, Nat.reduceLeDiff, one, Value.cells, Int.reduceLE, Int.reduceLT, Int.reduceToNat, add_mk, reduceCtorEq, List.mem_range'_1, true_and, and_true, and_false, false_and, Nat.reduceLT, Nat.reduceLeDiff, tyF]
    refine call_ok Try.call46 (ref_parse31 w2 A l c (hA.more hm12) hc (by omega)) ?_
    rintro v3 w3 ⟨hm3, hno3, _⟩
    obtain rfl := hno3 hp
    simp (config := {maxSteps := 1000000}) only [↓zvN, zvU, ↓up_apply, ↓hv_apply, ↓upO_some, ↓upO_none, ↓ev_tmp, ↓ev_const, ↓ev_func, ↓ev_global, init, Nat.reduceEqDiff, Nat.reduceAdd, Nat.reduceMul, Nat.reduceSub, ↓reduceIte, Int.reduceEq, Int.reduceNe, Nat.reduceLeDiff, one, Value.cells, Int.reduceLE, Int.reduceLT, Int.reduceToNat, add_mk, reduceCtorEq, List.mem_range'_1, true_and, and_true, and_false, false_and, Nat.reduceLT, Nat.reduceLeDiff, tyF]
    refine call_ok Try.call47 (law31_of w3 none [] 0 (Cs.nil _ _) (fun m hm => by cases hm) (by simp)) ?_
    rintro _ w4 ⟨A4, c4, rfl, _, hm4⟩
    simp (config := {maxSteps := 1000000}) only [↓zvN, zvU, ↓up_apply, ↓hv_apply, ↓upO_some, ↓upO_none, ↓ev_tmp, ↓ev_const, ↓ev_func, ↓ev_global, init, Nat.reduceEqDiff, Nat.reduceAdd, Nat.reduceMul, Nat.reduceSub, ↓reduceIte, Int.reduceEq, Int.reduceNe, Nat.reduceLeDiff, one, Value.cells, Int.reduceLE, Int.reduceLT, Int.reduceToNat, add_mk, reduceCtorEq, List.mem_range'_1, true_and, and_true, and_false, false_and, Nat.reduceLT, Nat.reduceLeDiff, tyF, List.length_nil, beq_self_eq_true]
    have hm04 := (hm12.trans hm3).trans hm4
    refine loop_p (8 :: List.range' 50 14) (fun e w' => ReadJ 0 w4 (e 50) w') (fun e _ => 0 - (numOf (e 50)).toNat) ?_ ?_
    · exact ⟨0, by simp only [hv_apply, up_apply, upO_some, upO_none, init, List.mem_cons, List.mem_range'_1, true_and, and_true, and_false, false_and, Nat.reduceLT, Nat.reduceLeDiff, Nat.reduceAdd, true_or, or_true, if_true, if_false, ↓reduceIte, Nat.reduceEqDiff, false_or, or_false, List.not_mem_nil, List.getElem?_cons_zero, List.getElem?_cons_succ, Option.getD_some] <;> rfl, by omega, More.refl _⟩
    rintro v w9 ⟨k, h50, hk, hm9⟩
    simp only [hv_apply, up_apply, upO_some, upO_none, init, List.mem_cons, List.mem_range'_1, true_and, and_true, and_false, false_and, Nat.reduceLT, Nat.reduceLeDiff, Nat.reduceAdd, true_or, or_true, if_true, if_false, ↓reduceIte, Nat.reduceEqDiff, false_or, or_false, List.not_mem_nil, List.getElem?_cons_zero, List.getElem?_cons_succ, Option.getD_some] at h50
    have ek : IntKind.i64.wrap ((k : Int) + 1) = ((k + 1 : Nat) : Int) := w64 (by omega) (by omega)
    have g0 : (0 : Int) ≤ (k : Int) := by omega
    simp (config := {maxSteps := 1000000}) only [↓zvN, zvU, ↓up_apply, ↓hv_apply, ↓upO_some, ↓upO_none, ↓ev_tmp, ↓ev_const, ↓ev_func, ↓ev_global, init, Nat.reduceEqDiff, Nat.reduceAdd, Nat.reduceMul, Nat.reduceSub, ↓reduceIte, Int.reduceEq, Int.reduceNe, Nat.reduceLeDiff, one, Value.cells, Int.reduceLE, Int.reduceLT, Int.reduceToNat, add_mk, reduceCtorEq, List.mem_range'_1, true_and, and_true, and_false, false_and, Nat.reduceLT, Nat.reduceLeDiff, tyF, h50]
    refine ⟨fun h9 => ?_, fun h9 => ?_⟩
    · omega
    · exact hm04.trans hm9
  · simp (config := {maxSteps := 1000000}) only [↓zvN, zvU, ↓up_apply, ↓hv_apply, ↓upO_some, ↓upO_none, ↓ev_tmp, ↓ev_const, ↓ev_func, ↓ev_global, init, Nat.reduceEqDiff, Nat.reduceAdd, Nat.reduceMul, Nat.reduceSub, ↓reduceIte, Int.reduceEq, Int.reduceNe, Nat.reduceLeDiff, one, Value.cells, Int.reduceLE, Int.reduceLT, Int.reduceToNat, add_mk, reduceCtorEq, List.mem_range'_1, true_and, and_true, and_false, false_and, Nat.reduceLT, Nat.reduceLeDiff, tyF]
    refine call_ok Try.call46 (ref_parse31 w2 A l c (hA.more hm12) hc (by omega)) ?_
    rintro v3 w3 ⟨hm3, _, hy3⟩
    obtain ⟨ms3, A3, c3, rfl, hms3, hml3, hc3, hO3⟩ := hy3 os hp
    simp (config := {maxSteps := 1000000}) only [↓zvN, zvU, ↓up_apply, ↓hv_apply, ↓upO_some, ↓upO_none, ↓ev_tmp, ↓ev_const, ↓ev_func, ↓ev_global, init, Nat.reduceEqDiff, Nat.reduceAdd, Nat.reduceMul, Nat.reduceSub, ↓reduceIte, Int.reduceEq, Int.reduceNe, Nat.reduceLeDiff, one, Value.cells, Int.reduceLE, Int.reduceLT, Int.reduceToNat, add_mk, reduceCtorEq, List.mem_range'_1, true_and, and_true, and_false, false_and, Nat.reduceLT, Nat.reduceLeDiff, tyF]
    refine call_ok Try.call47 (law31_of w3 A2 ms c2 (hc2.more hm3) (hO2.more hm3) (by omega)) ?_
    rintro _ w4 ⟨A4, c4, rfl, ho4, hm4⟩
    have hlen : ms.length = ms3.length := by
      have h1 := congrArg List.length hms
      have h2 := congrArg List.length hms3
      simp only [List.length_map] at h1 h2
      omega
    have hlenI : (ms.length : Int) = (ms3.length : Int) := by rw [hlen]
    simp (config := {maxSteps := 1000000}) only [↓zvN, zvU, ↓up_apply, ↓hv_apply, ↓upO_some, ↓upO_none, ↓ev_tmp, ↓ev_const, ↓ev_func, ↓ev_global, init, Nat.reduceEqDiff, Nat.reduceAdd, Nat.reduceMul, Nat.reduceSub, ↓reduceIte, Int.reduceEq, Int.reduceNe, Nat.reduceLeDiff, one, Value.cells, Int.reduceLE, Int.reduceLT, Int.reduceToNat, add_mk, reduceCtorEq, List.mem_range'_1, true_and, and_true, and_false, false_and, Nat.reduceLT, Nat.reduceLeDiff, tyF, hlenI, beq_self_eq_true]
    rw [hlen] at ho4 ⊢
    have hm04 := (hm12.trans hm3).trans hm4
    have hc3' := hc3.more hm4
    have hO3' := hO3.more hm4
    have hO2' := (hO2.more hm3).more hm4
    generalize hn : ms3.length = n at *
    refine loop_p (8 :: List.range' 50 14) (fun e w' => ReadJ n w4 (e 50) w') (fun e _ => n - (numOf (e 50)).toNat) ?_ ?_
    · exact ⟨0, by simp only [hv_apply, up_apply, upO_some, upO_none, init, List.mem_cons, List.mem_range'_1, true_and, and_true, and_false, false_and, Nat.reduceLT, Nat.reduceLeDiff, Nat.reduceAdd, true_or, or_true, if_true, if_false, ↓reduceIte, Nat.reduceEqDiff, false_or, or_false, List.not_mem_nil, List.getElem?_cons_zero, List.getElem?_cons_succ, Option.getD_some] <;> rfl, by omega, More.refl _⟩
    rintro v w9 ⟨k, h50, hk, hm9⟩
    simp only [hv_apply, up_apply, upO_some, upO_none, init, List.mem_cons, List.mem_range'_1, true_and, and_true, and_false, false_and, Nat.reduceLT, Nat.reduceLeDiff, Nat.reduceAdd, true_or, or_true, if_true, if_false, ↓reduceIte, Nat.reduceEqDiff, false_or, or_false, List.not_mem_nil, List.getElem?_cons_zero, List.getElem?_cons_succ, Option.getD_some] at h50
    have ek : IntKind.i64.wrap ((k : Int) + 1) = ((k + 1 : Nat) : Int) := w64 (by omega) (by omega)
    have g0 : (0 : Int) ≤ (k : Int) := by omega
    simp (config := {maxSteps := 1000000}) only [↓zvN, zvU, ↓up_apply, ↓hv_apply, ↓upO_some, ↓upO_none, ↓ev_tmp, ↓ev_const, ↓ev_func, ↓ev_global, init, Nat.reduceEqDiff, Nat.reduceAdd, Nat.reduceMul, Nat.reduceSub, ↓reduceIte, Int.reduceEq, Int.reduceNe, Nat.reduceLeDiff, one, Value.cells, Int.reduceLE, Int.reduceLT, Int.reduceToNat, add_mk, reduceCtorEq, List.mem_range'_1, true_and, and_true, and_false, false_and, Nat.reduceLT, Nat.reduceLeDiff, tyF, h50]
    refine ⟨fun h9 => ?_, fun h9 => ?_⟩
    · obtain ⟨m, hm⟩ := row_nat ms k (by omega)
      obtain ⟨m3, hm3'⟩ := row_nat ms3 k (by omega)
      have hmo : m.o = m3.o := by
        have h1 : (ms.map OpM.o)[k]? = (ms3.map OpM.o)[k]? := by rw [hms, hms3]
        simpa [hm, hm3'] using h1
      have hmm := List.mem_of_getElem? hm
      have hmm3 := List.mem_of_getElem? hm3'
      have hE : ∀ m ∈ ms, m.cells.length = 49 := fun m hm => OpM.len (hO2 m hm).1
      have hE3 : ∀ m ∈ ms3, m.cells.length = 49 := fun m hm => OpM.len (hO3 m hm).1
      obtain ⟨a4, rfl⟩ := ho4.cs.some_of (by rw [row_len ms hE]; omega)
      obtain ⟨a3, rfl⟩ := hc3'.some_of (by rw [row_len ms3 hE3]; omega)
      have rd := (ho4.cs.more hm9).rowEq hE hm
      have rd3 := (hc3'.more hm9).rowEq hE3 hm3'
      refine draw_line w9.heap.size More [0, 0, 0, 0, 0, 0, 0, 0, 1, 0] [[], [], [0, 1], [0, 1, 2], [], [], [4, 5], [4, 5, 6], [0, 1, 2, 3, 4, 5, 6, 7], [0, 1, 2, 3, 4, 5, 6, 7, 8]] mixed (by kernel_rfl) (by kernel_rfl) (More.refl _) (fun w' h => h) (fun w' h => h) ?_
      intro w10 hm10
      have hsame := ref_same31 w10 m.o (hO2 m hmm).1 m.A m3.A m.c m3.c (((hO2' m hmm).2.1.more hm9).more hm10) (by rw [hmo]; exact ((hO3' m3 hmm3).2.1.more hm9).more hm10)
      have e3 : m3.cells = m.o.cells (.slice m3.A m.o.b.length m3.c) := by rw [hmo]; rfl
      rw [e3] at rd3
      simp (config := {maxSteps := 1000000}) only [↓zvN, zvU, ↓zqD, ↓sk_nil, ↓sk_cons, ↓sk_guard, ↓sk_zero, ↓sk_one, ↓sk_two, ↓up_apply, ↓hv_apply, ↓upO_some, ↓upO_none, ↓ev_tmp, ↓ev_const, ↓ev_func, ↓ev_global, init, Nat.reduceEqDiff, Nat.reduceAdd, Nat.reduceMul, Nat.reduceSub, ↓reduceIte, Int.reduceEq, Int.reduceNe, Nat.reduceLeDiff, one, Value.cells, Int.reduceLE, Int.reduceLT, Int.reduceToNat, add_mk, reduceCtorEq, List.mem_range'_1, true_and, and_true, and_false, false_and, Nat.reduceLT, Nat.reduceLeDiff, tyF, h50, g0, h9, rd, rd3, Int.toNat_natCast]
      refine call_ok Try.call48 hsame ?_
      rintro _ w11 ⟨rfl, hm11⟩
      simp (config := {maxSteps := 1000000}) only [↓zvN, zvU, ↓zqD, ↓sk_nil, ↓sk_cons, ↓sk_guard, ↓sk_zero, ↓sk_one, ↓sk_two, ↓up_apply, ↓hv_apply, ↓upO_some, ↓upO_none, ↓ev_tmp, ↓ev_const, ↓ev_func, ↓ev_global, init, Nat.reduceEqDiff, Nat.reduceAdd, Nat.reduceMul, Nat.reduceSub, ↓reduceIte, Int.reduceEq, Int.reduceNe, Nat.reduceLeDiff, one, Value.cells, Int.reduceLE, Int.reduceLT, Int.reduceToNat, add_mk, reduceCtorEq, List.mem_range'_1, true_and, and_true, and_false, false_and, Nat.reduceLT, Nat.reduceLeDiff, tyF, h50]
      refine ⟨hm10.trans hm11, ?_⟩
      simp (config := {maxSteps := 1000000}) only [↓zvN, zvU, ↓zqD, ↓sk_nil, ↓sk_cons, ↓sk_guard, ↓sk_zero, ↓sk_one, ↓sk_two, ↓up_apply, ↓hv_apply, ↓upO_some, ↓upO_none, ↓ev_tmp, ↓ev_const, ↓ev_func, ↓ev_global, init, Nat.reduceEqDiff, Nat.reduceAdd, Nat.reduceMul, Nat.reduceSub, ↓reduceIte, Int.reduceEq, Int.reduceNe, Nat.reduceLeDiff, one, Value.cells, Int.reduceLE, Int.reduceLT, Int.reduceToNat, add_mk, reduceCtorEq, List.mem_range'_1, true_and, and_true, and_false, false_and, Nat.reduceLT, Nat.reduceLeDiff, tyF, h50, ek]
      refine ⟨⟨?_, k + 1, rfl, by omega, (hm9.trans hm10).trans hm11⟩, by simp only [numOf]; omega⟩
      repeat (first | exact Same.hv _ _ _ | refine Same.up (by simp) ?_)
    · exact hm04.trans hm9
open Classical in
theorem script_writes (w : World) (A : Option Addr) (ms : List OpM) (c : Nat) (hA : Cs w A (ms.flatMap OpM.cells)) (hO : OpsB w ms) (hN : ∀ m ∈ ms, m.o.Num) :
    Ret Try.prog 10 #[.slice A ms.length c] w fun v w' => v = .bool true ∧ More w w' := by
  refine ret_of Try.func10 rfl (by kernel_rfl) (Nat.le_of_ble_eq_true (by kernel_rfl)) ?_
  simp (config := {maxSteps := 1000000}) only [↓zvN, zvU, ↓up_apply, ↓hv_apply, ↓upO_some, ↓upO_none, ↓ev_tmp, ↓ev_const, ↓ev_func, ↓ev_global, init, Nat.reduceEqDiff, Nat.reduceAdd, Nat.reduceMul, Nat.reduceSub, ↓reduceIte, Int.reduceEq, Int.reduceNe, Nat.reduceLeDiff, one, Value.cells, Int.reduceLE, Int.reduceLT, Int.reduceToNat, add_mk, reduceCtorEq, List.mem_range'_1, true_and, and_true, and_false, false_and, Nat.reduceLT, Nat.reduceLeDiff, tyF]
  refine call_ok Try.call44 (law31_awake w) ?_
  rintro _ w1 ⟨rfl, hm1⟩
  simp (config := {maxSteps := 1000000}) only [↓zvN, zvU, ↓up_apply, ↓hv_apply, ↓upO_some, ↓upO_none, ↓ev_tmp, ↓ev_const, ↓ev_func, ↓ev_global, init, Nat.reduceEqDiff, Nat.reduceAdd, Nat.reduceMul, Nat.reduceSub, ↓reduceIte, Int.reduceEq, Int.reduceNe, Nat.reduceLeDiff, one, Value.cells, Int.reduceLE, Int.reduceLT, Int.reduceToNat, add_mk, reduceCtorEq, List.mem_range'_1, true_and, and_true, and_false, false_and, Nat.reduceLT, Nat.reduceLeDiff, tyF]
  refine ⟨fun h9 => ?_, fun h9 => ?_⟩
  · refine call_ok Try.call44 (law31_awake w1) ?_
    rintro _ w2 ⟨rfl, hm2⟩
    simp (config := {maxSteps := 1000000}) only [↓zvN, zvU, ↓up_apply, ↓hv_apply, ↓upO_some, ↓upO_none, ↓ev_tmp, ↓ev_const, ↓ev_func, ↓ev_global, init, Nat.reduceEqDiff, Nat.reduceAdd, Nat.reduceMul, Nat.reduceSub, ↓reduceIte, Int.reduceEq, Int.reduceNe, Nat.reduceLeDiff, one, Value.cells, Int.reduceLE, Int.reduceLT, Int.reduceToNat, add_mk, reduceCtorEq, List.mem_range'_1, true_and, and_true, and_false, false_and, Nat.reduceLT, Nat.reduceLeDiff, tyF]
    exact hm1.trans hm2
  refine call_ok Try.call49 (script_encode w1 A ms c (hA.more hm1) (hO.more hm1) hN (by omega)) ?_
  rintro v2 w2 ⟨hm2, hno2, hy2⟩
  have hm12 := hm1.trans hm2
  have hcs : ∀ w' : World, ∀ K, runP Try.prog (convert 22 9 (.slice none 0 0)) w' K = K (.string (bstr [])) w' := fun w' K =>
    conv_eq (S := 22) (D := 9) (l := []) Try.underlying22 Try.underlying5 Try.underlying9 (Cs.nil w' none) 0 K
  cases he : encM (ms.map OpM.o) with
  | none =>
    obtain rfl := hno2 he
    simp (config := {maxSteps := 1000000}) only [↓zvN, zvU, ↓up_apply, ↓hv_apply, ↓upO_some, ↓upO_none, ↓ev_tmp, ↓ev_const, ↓ev_func, ↓ev_global, init, Nat.reduceEqDiff, Nat.reduceAdd, Nat.reduceMul, Nat.reduceSub, ↓reduceIte, Int.reduceEq, Int.reduceNe, Nat.reduceLeDiff, one, Value.cells, Int.reduceLE, Int.reduceLT, Int.reduceToNat, add_mk, reduceCtorEq, List.mem_range'_1, true_and, and_true, and_false, false_and, Nat.reduceLT, Nat.reduceLeDiff, tyF]
    refine call_ok Try.call47 (law31_of w2 A ms c (hA.more hm12) (hO.more hm12) (by omega)) ?_
    rintro _ w4 ⟨A4, c4, rfl, ho4, hm4⟩
    simp (config := {maxSteps := 1000000}) only [↓zvN, zvU, ↓up_apply, ↓hv_apply, ↓upO_some, ↓upO_none, ↓ev_tmp, ↓ev_const, ↓ev_func, ↓ev_global, init, Nat.reduceEqDiff, Nat.reduceAdd, Nat.reduceMul, Nat.reduceSub, ↓reduceIte, Int.reduceEq, Int.reduceNe, Nat.reduceLeDiff, one, Value.cells, Int.reduceLE, Int.reduceLT, Int.reduceToNat, add_mk, reduceCtorEq, List.mem_range'_1, true_and, and_true, and_false, false_and, Nat.reduceLT, Nat.reduceLeDiff, tyF]
    refine call_ok Try.call50 (ref_encode31 w4 A4 ms c4 ho4.cs ((hO.more hm12).more hm4) hN (by omega)) ?_
    rintro v5 w5 ⟨hm5, hno5, _⟩
    obtain rfl := hno5 he
    simp (config := {maxSteps := 1000000}) only [↓zvN, zvU, ↓up_apply, ↓hv_apply, ↓upO_some, ↓upO_none, ↓ev_tmp, ↓ev_const, ↓ev_func, ↓ev_global, init, Nat.reduceEqDiff, Nat.reduceAdd, Nat.reduceMul, Nat.reduceSub, ↓reduceIte, Int.reduceEq, Int.reduceNe, Nat.reduceLeDiff, one, Value.cells, Int.reduceLE, Int.reduceLT, Int.reduceToNat, add_mk, reduceCtorEq, List.mem_range'_1, true_and, and_true, and_false, false_and, Nat.reduceLT, Nat.reduceLeDiff, tyF, hcs, beq_self_eq_true]
    exact (hm12.trans hm4).trans hm5
  | some l =>
    obtain ⟨hll, A2, c2, rfl, ho2⟩ := hy2 l he
    have hall : ∀ o ∈ ms.map OpM.o, okM o := by
      intro o ho
      by_cases h : ∀ o ∈ ms.map OpM.o, okM o
      · exact h o ho
      · unfold encM at he
        rw [if_neg h] at he
        cases he
    have hl : l = (ms.map OpM.o).flatMap putM := by
      unfold encM at he
      rw [if_pos hall] at he
      exact (Option.some.inj he).symm
    obtain ⟨os', hp', hlen', hprops, hback⟩ := parse_back (ms.map OpM.o) (fun o ho => by
      obtain ⟨m, hm, rfl⟩ := List.mem_map.1 ho
      exact ⟨(hO m hm).1, hN m hm, hall _ (List.mem_map.2 ⟨m, hm, rfl⟩)⟩)
    rw [← hl] at hp' hback
    simp (config := {maxSteps := 1000000}) only [↓zvN, zvU, ↓up_apply, ↓hv_apply, ↓upO_some, ↓upO_none, ↓ev_tmp, ↓ev_const, ↓ev_func, ↓ev_global, init, Nat.reduceEqDiff, Nat.reduceAdd, Nat.reduceMul, Nat.reduceSub, ↓reduceIte, Int.reduceEq, Int.reduceNe, Nat.reduceLeDiff, one, Value.cells, Int.reduceLE, Int.reduceLT, Int.reduceToNat, add_mk, reduceCtorEq, List.mem_range'_1, true_and, and_true, and_false, false_and, Nat.reduceLT, Nat.reduceLeDiff, tyF]
    refine call_ok Try.call47 (law31_of w2 A ms c (hA.more hm12) (hO.more hm12) (by omega)) ?_
    rintro _ w4 ⟨A4, c4, rfl, ho4, hm4⟩
    simp (config := {maxSteps := 1000000}) only [↓zvN, zvU, ↓up_apply, ↓hv_apply, ↓upO_some, ↓upO_none, ↓ev_tmp, ↓ev_const, ↓ev_func, ↓ev_global, init, Nat.reduceEqDiff, Nat.reduceAdd, Nat.reduceMul, Nat.reduceSub, ↓reduceIte, Int.reduceEq, Int.reduceNe, Nat.reduceLeDiff, one, Value.cells, Int.reduceLE, Int.reduceLT, Int.reduceToNat, add_mk, reduceCtorEq, List.mem_range'_1, true_and, and_true, and_false, false_and, Nat.reduceLT, Nat.reduceLeDiff, tyF]
    refine call_ok Try.call50 (ref_encode31 w4 A4 ms c4 ho4.cs ((hO.more hm12).more hm4) hN (by omega)) ?_
    rintro v5 w5 ⟨hm5, _, hy5⟩
    obtain ⟨A5, c5, rfl, ho5⟩ := hy5 l he
    have hb5 : Bs w5 A2 l := (ho2.cs.more hm4).more hm5
    have cv := fun A c (w' : World) (h : Bs w' A l) K => conv_eq (S := 22) (D := 9) Try.underlying22 Try.underlying5 Try.underlying9 h c K
    have cva := cv A2 c2 w5 hb5
    have cvb := cv A5 c5 w5 ho5.cs
    simp (config := {maxSteps := 1000000}) only [↓zvN, zvU, ↓up_apply, ↓hv_apply, ↓upO_some, ↓upO_none, ↓ev_tmp, ↓ev_const, ↓ev_func, ↓ev_global, init, Nat.reduceEqDiff, Nat.reduceAdd, Nat.reduceMul, Nat.reduceSub, ↓reduceIte, Int.reduceEq, Int.reduceNe, Nat.reduceLeDiff, one, Value.cells, Int.reduceLE, Int.reduceLT, Int.reduceToNat, add_mk, reduceCtorEq, List.mem_range'_1, true_and, and_true, and_false, false_and, Nat.reduceLT, Nat.reduceLeDiff, tyF, cva, cvb, beq_self_eq_true]
    refine call_ok Try.call45 (script_parse w5 A2 l c2 hb5 (by omega)) ?_
    rintro v6 w6 ⟨hm6, _, hy6⟩
    obtain ⟨ms6, A6, c6, rfl, hms6, _, ho6, hO6⟩ := hy6 os' hp'
    simp (config := {maxSteps := 1000000}) only [↓zvN, zvU, ↓up_apply, ↓hv_apply, ↓upO_some, ↓upO_none, ↓ev_tmp, ↓ev_const, ↓ev_func, ↓ev_global, init, Nat.reduceEqDiff, Nat.reduceAdd, Nat.reduceMul, Nat.reduceSub, ↓reduceIte, Int.reduceEq, Int.reduceNe, Nat.reduceLeDiff, one, Value.cells, Int.reduceLE, Int.reduceLT, Int.reduceToNat, add_mk, reduceCtorEq, List.mem_range'_1, true_and, and_true, and_false, false_and, Nat.reduceLT, Nat.reduceLeDiff, tyF]
    have hlen6 : ms6.length = ms.length := by
      have h1 := congrArg List.length hms6
      simp only [List.length_map] at h1 hlen'
      omega
    refine call_ok Try.call49 (script_encode w6 A6 ms6 c6 ho6.cs hO6.toB (fun m hm => (hprops m.o (by rw [← hms6]; exact List.mem_map.2 ⟨m, hm, rfl⟩)).2.1) (by omega)) ?_
    rintro v7 w7 ⟨hm7, _, hy7⟩
    have he7 : encM (ms6.map OpM.o) = some l := by
      unfold encM
      rw [hms6, if_pos (fun o ho => (hprops o ho).2.2), hback]
    obtain ⟨_, A7, c7, rfl, ho7⟩ := hy7 l he7
    have hlenI : (ms6.length : Int) = (ms.length : Int) := by rw [hlen6]
    have cvc := cv A7 c7 w7 ho7.cs
    have cvd := cv A2 c2 w7 ((hb5.more hm6).more hm7)
    simp (config := {maxSteps := 1000000}) only [↓zvN, zvU, ↓up_apply, ↓hv_apply, ↓upO_some, ↓upO_none, ↓ev_tmp, ↓ev_const, ↓ev_func, ↓ev_global, init, Nat.reduceEqDiff, Nat.reduceAdd, Nat.reduceMul, Nat.reduceSub, ↓reduceIte, Int.reduceEq, Int.reduceNe, Nat.reduceLeDiff, one, Value.cells, Int.reduceLE, Int.reduceLT, Int.reduceToNat, add_mk, reduceCtorEq, List.mem_range'_1, true_and, and_true, and_false, false_and, Nat.reduceLT, Nat.reduceLeDiff, tyF, hlenI, cvc, cvd, beq_self_eq_true]
    exact ((((hm12.trans hm4).trans hm5).trans hm6).trans hm7)
end Go.Proofs.Ytloiglnejffmkaa
