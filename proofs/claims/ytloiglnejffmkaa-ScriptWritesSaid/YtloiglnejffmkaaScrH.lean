/-
  Layer 31: script.Encode.
-/
import Derived.Test.YtloiglnejffmkaaScrG
import Derived.Test.YtloiglnejffmkaaXt
namespace Go.Proofs.Ytloiglnejffmkaa
open Go Go.RowKit Go.Proofs.RV
set_option linter.unusedSimpArgs false
set_option linter.unusedVariables false
set_option maxRecDepth 10000
set_option maxHeartbeats 4000000
theorem putM_len {o : SOp} (hf : o.Fit) (h : okM o) : (putM o).length ≤ 65554 := by
  unfold putM tailM
  unfold okM at h
  have e := encC_len o.cfg
  rw [hf.cfg] at e
  rw [List.length_cons]
  by_cases k1 : o.kind = 1
  · simp [k1, numB_len]
  by_cases k2 : o.kind = 2
  · simp only [k2, if_true] at h
    simp [k2, numB_len]
    omega
  by_cases k4 : o.kind = 4
  · simp [k4, hf.key]
  by_cases k5 : o.kind = 5
  · simp [k5, hf.addr]
  by_cases k7 : o.kind = 7
  · simp only [k7, if_true] at h
    simp at h
    simp [k7, h]
    omega
  simp [k1, k2, k4, k5, k7]
open Classical in
noncomputable def encM (os : List SOp) : Option (List UInt8) := if ∀ o ∈ os, okM o then some (os.flatMap putM) else none
theorem putsM_len (os : List SOp) (hf : ∀ o ∈ os, o.Fit) (h : ∀ o ∈ os, okM o) : (os.flatMap putM).length ≤ os.length * 65554 := by
  induction os with
  | nil => simp
  | cons o r ih =>
    have h1 := putM_len (hf o (by simp)) (h o (by simp))
    have h2 := ih (fun o ho => hf o (by simp [ho])) (fun o ho => h o (by simp [ho]))
    simp only [List.flatMap_cons, List.length_append, List.length_cons]
    omega
def EncR (os : List SOp) (w : World) (v : Value) (w' : World) : Prop :=
  More w w' ∧ (encM os = none → v = .tuple #[.slice none 0 0, .int .i64 1]) ∧
    ∀ l, encM os = some l → l.length ≤ 2000000 ∧ ∃ A c, v = .tuple #[.slice A l.length c, .int .i64 0] ∧ Own w' w.heap.size 5 1 A l.length c (l.map byteV)
def EncJ (os : List SOp) (w : World) (v9 : Value) (w' : World) : Prop :=
  ∃ (k : Nat) (A : Option Addr) (c : Nat), v9 = .int .i64 k ∧ k ≤ os.length ∧ OutAt w' w.heap.size w.heap.size A c ((os.take k).flatMap putM) ∧ (∀ o ∈ os.take k, okM o) ∧ More w w'
theorem script_encode (w : World) (A : Option Addr) (ms : List OpM) (c : Nat) (hA : Cs w A (ms.flatMap OpM.cells)) (hO : OpsB w ms) (hN : ∀ m ∈ ms, m.o.Num) (hl : ms.length ≤ 30) :
    Ret Try.prog 49 #[.slice A ms.length c] w (EncR (ms.map OpM.o) w) := by
  refine ret_of Try.func49 rfl (by kernel_rfl) (Nat.le_of_ble_eq_true (by kernel_rfl)) ?_
  have hE : ∀ m ∈ ms, m.cells.length = 49 := fun m hm => OpM.len (hO m hm).1
  have hm1 := more_alloc w (.cells #[.slice none 0 0] 25)
  have ho1 := out_made w
  have s1 := size_alloc w (.cells #[.slice none 0 0] 25)
  simp (config := {maxSteps := 1000000}) only [↓zvN, zvU, ↓up_apply, ↓hv_apply, ↓upO_some, ↓upO_none, ↓ev_tmp, ↓ev_const, ↓ev_func, ↓ev_global, init, Nat.reduceEqDiff, Nat.reduceAdd, Nat.reduceMul, Nat.reduceSub, ↓reduceIte, Int.reduceEq, Int.reduceNe, Nat.reduceLeDiff, one, Value.cells, Int.reduceLE, Int.reduceLT, Int.reduceToNat, add_mk, reduceCtorEq, List.mem_range'_1, true_and, and_true, and_false, false_and, Nat.reduceLT, Nat.reduceLeDiff, tyF, zerOut]
  generalize w.alloc (.cells #[.slice none 0 0] 25) = w1 at hm1 ho1 s1 ⊢
  refine loop_p (6 :: 9 :: List.range' 10 8) (fun e w' => EncJ (ms.map OpM.o) w (e 9) w') (fun e _ => ms.length - (numOf (e 9)).toNat) ?_ ?_
  · exact ⟨0, none, 0, by simp only [hv_apply, up_apply, upO_some, upO_none, init, List.mem_cons, List.mem_range'_1, true_and, and_true, and_false, false_and, Nat.reduceLT, Nat.reduceLeDiff, Nat.reduceAdd, true_or, or_true, if_true, if_false, ↓reduceIte, Nat.reduceEqDiff, false_or, or_false, List.not_mem_nil, List.getElem?_cons_zero, List.getElem?_cons_succ, Option.getD_some] <;> rfl, by omega, ho1, (fun o ho => by cases ho), hm1⟩
  rintro v w2 ⟨k, A2, c2, h9, hk, ho2, hok, hm2⟩
  simp only [hv_apply, up_apply, upO_some, upO_none, init, List.mem_cons, List.mem_range'_1, true_and, and_true, and_false, false_and, Nat.reduceLT, Nat.reduceLeDiff, Nat.reduceAdd, true_or, or_true, if_true, if_false, ↓reduceIte, Nat.reduceEqDiff, false_or, or_false, List.not_mem_nil, List.getElem?_cons_zero, List.getElem?_cons_succ, Option.getD_some] at h9
  rw [List.length_map] at hk
  have ek : IntKind.i64.wrap ((k : Int) + 1) = ((k + 1 : Nat) : Int) := w64 (by omega) (by omega)
  simp (config := {maxSteps := 1000000}) only [↓zvN, zvU, ↓up_apply, ↓hv_apply, ↓upO_some, ↓upO_none, ↓ev_tmp, ↓ev_const, ↓ev_func, ↓ev_global, init, Nat.reduceEqDiff, Nat.reduceAdd, Nat.reduceMul, Nat.reduceSub, ↓reduceIte, Int.reduceEq, Int.reduceNe, Nat.reduceLeDiff, one, Value.cells, Int.reduceLE, Int.reduceLT, Int.reduceToNat, add_mk, reduceCtorEq, List.mem_range'_1, true_and, and_true, and_false, false_and, Nat.reduceLT, Nat.reduceLeDiff, tyF, h9]
  refine ⟨fun h8 => ?_, fun h8 => ?_⟩
  · obtain ⟨m, hm⟩ := row_nat ms k (by omega)
    obtain ⟨a, rfl⟩ := hA.some_of (by rw [row_len ms hE]; omega)
    have hmm := List.mem_of_getElem? hm
    have hfit := (hO m hmm).1
    have rd := (hA.more hm2).rowEq hE hm
    have g0 : (0 : Int) ≤ (k : Int) := by omega
    have zOp := zerOp
    simp (config := {maxSteps := 1000000}) only [↓zvN, zvU, ↓up_apply, ↓hv_apply, ↓upO_some, ↓upO_none, ↓ev_tmp, ↓ev_const, ↓ev_func, ↓ev_global, init, Nat.reduceEqDiff, Nat.reduceAdd, Nat.reduceMul, Nat.reduceSub, ↓reduceIte, Int.reduceEq, Int.reduceNe, Nat.reduceLeDiff, one, Value.cells, Int.reduceLE, Int.reduceLT, Int.reduceToNat, add_mk, reduceCtorEq, List.mem_range'_1, true_and, and_true, and_false, false_and, Nat.reduceLT, Nat.reduceLeDiff, tyF, h9, g0, h8, rd, Int.toNat_natCast, zOp]
    have hm3 := more_alloc w2 (.cells ((opZ 0).cells (.slice none 0 0)).toArray 159)
    have hb3 := Blk.new w2 159 ((opZ 0).cells (.slice none 0 0)).toArray
    have s3 := size_alloc w2 (.cells ((opZ 0).cells (.slice none 0 0)).toArray 159)
    generalize w2.alloc (.cells ((opZ 0).cells (.slice none 0 0)).toArray 159) = w3 at hm3 hb3 s3 ⊢
    rw [List.toList_toArray] at hb3
    refine st_all hb3 (by simp [OpM.cells, SOp.len hfit]) (SOp.len (opZ_fit 0) _) (fun u hu => SOp.one m.o (sl := .slice m.A m.o.b.length m.c) rfl u (by simpa [OpM.cells] using hu)) fun w4 j1 j2 => ?_
    rw [s2_undef]
    rw [List.toList_toArray] at j2
    have hv4 := j2.all_eq 49 (hE m hmm)
    have s4 := j1.size
    have hz2 := hm2.size
    have hm4 : More w w4 := j1.below (hm2.trans hm3) (by omega)
    have hle := putsM_len ((ms.map OpM.o).take k) (fun o ho => by
      obtain ⟨m', hm', rfl⟩ := List.mem_map.1 (List.mem_of_mem_take ho)
      exact (hO m' hm').1) hok
    have hl30 : ((ms.map OpM.o).take k).length ≤ 29 := by rw [List.length_take]; omega
    have ho4 : OutAt w4 w.heap.size w.heap.size A2 c2 (((ms.map OpM.o).take k).flatMap putM) := (ho2.more hm3).mod (Mod.of_wr (S := fun x => x = w2.heap.size) j1 rfl) (fun x hx hh => by have := ho2.ge hx; omega)
    simp (config := {maxSteps := 1000000}) only [↓zvN, zvU, ↓up_apply, ↓hv_apply, ↓upO_some, ↓upO_none, ↓ev_tmp, ↓ev_const, ↓ev_func, ↓ev_global, init, Nat.reduceEqDiff, Nat.reduceAdd, Nat.reduceMul, Nat.reduceSub, ↓reduceIte, Int.reduceEq, Int.reduceNe, Nat.reduceLeDiff, one, Value.cells, Int.reduceLE, Int.reduceLT, Int.reduceToNat, add_mk, reduceCtorEq, List.mem_range'_1, true_and, and_true, and_false, false_and, Nat.reduceLT, Nat.reduceLeDiff, tyF, h9, hv4]
    refine call_ok Try.call87 (script_put w w4 hm4 _ _ A2 c2 _ ho4 (Nat.le_refl _) (by omega) (by omega) m.o hfit (hN m hmm) m.A m.c (hO m hmm).2.1) ?_
    rintro _ w5 ⟨rfl, A5, c5, ho5, hmd5, hat5⟩
    have hm5 : More w w5 := out_more ho4 hmd5 hm4 (Nat.le_refl _)
    have hget : (ms.map OpM.o)[k]? = some m.o := by simp [hm]
    have hstep : (ms.map OpM.o).take (k + 1) = (ms.map OpM.o).take k ++ [m.o] := by
      rw [List.take_add_one, hget]
      rfl
    by_cases hp : okM m.o
    · rw [decide_eq_true hp]
      simp (config := {maxSteps := 1000000}) only [↓zvN, zvU, ↓up_apply, ↓hv_apply, ↓upO_some, ↓upO_none, ↓ev_tmp, ↓ev_const, ↓ev_func, ↓ev_global, init, Nat.reduceEqDiff, Nat.reduceAdd, Nat.reduceMul, Nat.reduceSub, ↓reduceIte, Int.reduceEq, Int.reduceNe, Nat.reduceLeDiff, one, Value.cells, Int.reduceLE, Int.reduceLT, Int.reduceToNat, add_mk, reduceCtorEq, List.mem_range'_1, true_and, and_true, and_false, false_and, Nat.reduceLT, Nat.reduceLeDiff, tyF, h9, ek]
      refine ⟨⟨?_, k + 1, A5, c5, rfl, by rw [List.length_map]; omega, by rw [hstep]; simpa using ho5, ?_, hm5⟩, by simp only [numOf]; omega⟩
      · repeat (first | exact Same.hv _ _ _ | refine Same.up (by simp) ?_)
      · rw [hstep]
        intro o ho
        rcases List.mem_append.1 ho with h | h
        · exact hok o h
        · rw [List.mem_singleton.1 h]; exact hp
    · rw [decide_eq_false hp]
      simp (config := {maxSteps := 1000000}) only [↓zvN, zvU, ↓up_apply, ↓hv_apply, ↓upO_some, ↓upO_none, ↓ev_tmp, ↓ev_const, ↓ev_func, ↓ev_global, init, Nat.reduceEqDiff, Nat.reduceAdd, Nat.reduceMul, Nat.reduceSub, ↓reduceIte, Int.reduceEq, Int.reduceNe, Nat.reduceLeDiff, one, Value.cells, Int.reduceLE, Int.reduceLT, Int.reduceToNat, add_mk, reduceCtorEq, List.mem_range'_1, true_and, and_true, and_false, false_and, Nat.reduceLT, Nat.reduceLeDiff, tyF, h9]
      have hnone : encM (ms.map OpM.o) = none := by
        unfold encM
        rw [if_neg (fun h => hp (h m.o (List.mem_map.2 ⟨m, hmm, rfl⟩)))]
      exact ⟨hm5, fun _ => rfl, fun l h => by rw [hnone] at h; cases h⟩
  · obtain rfl : k = ms.length := by omega
    rw [List.take_of_length_le (by simp)] at ho2 hok
    have hle := putsM_len (ms.map OpM.o) (fun o ho => by
      obtain ⟨m', hm', rfl⟩ := List.mem_map.1 ho
      exact (hO m' hm').1) hok
    rw [List.length_map] at hle
    refine call_ok Try.call19 (out_bytes w2 _ _ A2 c2 _ ho2 (by omega)) ?_
    rintro _ w3 ⟨A3, c3, rfl, ho3, hm3⟩
    simp (config := {maxSteps := 1000000}) only [↓zvN, zvU, ↓up_apply, ↓hv_apply, ↓upO_some, ↓upO_none, ↓ev_tmp, ↓ev_const, ↓ev_func, ↓ev_global, init, Nat.reduceEqDiff, Nat.reduceAdd, Nat.reduceMul, Nat.reduceSub, ↓reduceIte, Int.reduceEq, Int.reduceNe, Nat.reduceLeDiff, one, Value.cells, Int.reduceLE, Int.reduceLT, Int.reduceToNat, add_mk, reduceCtorEq, List.mem_range'_1, true_and, and_true, and_false, false_and, Nat.reduceLT, Nat.reduceLeDiff, tyF, h9]
    have hsome : encM (ms.map OpM.o) = some ((ms.map OpM.o).flatMap putM) := by
      unfold encM
      rw [if_pos hok]
    refine ⟨hm2.trans hm3, (fun h => by rw [hsome] at h; cases h), fun l h => ?_⟩
    rw [hsome] at h
    cases h
    exact ⟨by omega, A3, c3, rfl, ho3.mono hm2.size⟩
end Go.Proofs.Ytloiglnejffmkaa
