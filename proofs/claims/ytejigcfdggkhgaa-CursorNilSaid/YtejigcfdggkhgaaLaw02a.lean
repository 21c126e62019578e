/-
  Layer 2: what an idle program answers wrongly; CursorParts and CursorNil.
-/
import Derived.Test.YtejigcfdggkhgaaCurRef
namespace Go.Proofs.Ytejigcfdggkhgaa
open Go Go.RowKit Go.Proofs.RV
set_option linter.unusedSimpArgs false
set_option linter.unusedVariables false
set_option maxRecDepth 10000
set_option maxHeartbeats 4000000

theorem zerOut : zer Try.prog 50 = some (.agg #[.slice none 0 0]) := zer50
/-- an Out that is made -/
theorem out_made (w : World) : OutAt (w.alloc (.cells #[.slice none 0 0] 50)) w.heap.size w.heap.size none 0 [] := by
  refine ⟨Blk.new w _ _, Own.nil _ _ _ _, Nat.le_refl _, fun k hk => (atB_none k hk).elim⟩
theorem out_u16 (w : World) (B q : Nat) (A : Option Addr) (c : Nat) (l : List UInt8) (n : Int) (h : OutAt w B q A c l) (hl : l.length ≤ 900000) (hn : 0 ≤ n ∧ n < 65536) (hB : B ≤ w.heap.size) :
    Ret Try.prog 38 #[.pointer (some ⟨q, 0, none⟩), .int .u16 n] w fun v w' => v = .tuple #[] ∧ OutR w B q A (l ++ numB n 2) w' := by
  refine ret_of Try.func38 rfl (by kernel_rfl) (Nat.le_of_ble_eq_true (by kernel_rfl)) ?_
  have e1 : IntKind.u64.wrap n = n := wu64 hn.1 (by omega)
  simp (config := {maxSteps := 1000000}) only [↓zvD, zvU, ↓up_apply, ↓hv_apply, ↓upO_some, ↓upO_none, ↓ev_tmp, ↓ev_const, ↓ev_func, ↓ev_global, init, Nat.reduceEqDiff, Nat.reduceAdd, Nat.reduceMul, Nat.reduceSub, ↓reduceIte, Int.reduceEq, Int.reduceNe, Nat.reduceLeDiff, one, Value.cells, Int.reduceLE, Int.reduceLT, Int.reduceToNat, add_mk, reduceCtorEq, tyF, e1]
  refine call_ok Try.call53 (out_number w B q A c l n 2 h hl hn.1 (by omega) hB) ?_
  rintro _ w1 ⟨rfl, h1⟩
  simp (config := {maxSteps := 1000000}) only [↓zvD, zvU, ↓up_apply, ↓hv_apply, ↓upO_some, ↓upO_none, ↓ev_tmp, ↓ev_const, ↓ev_func, ↓ev_global, init, Nat.reduceEqDiff, Nat.reduceAdd, Nat.reduceMul, Nat.reduceSub, ↓reduceIte, Int.reduceEq, Int.reduceNe, Nat.reduceLeDiff, one, Value.cells, Int.reduceLE, Int.reduceLT, Int.reduceToNat, add_mk, reduceCtorEq, tyF]
  exact h1
theorem law02_awake (w : World) : Ret Try.prog 21 #[] w fun v w' => v = .bool true ∧ More w w' := by
  refine ret_of Try.func21 rfl (by kernel_rfl) (Nat.le_of_ble_eq_true (by kernel_rfl)) ?_
  simp (config := {maxSteps := 1000000}) only [↓zvD, zvU, ↓up_apply, ↓hv_apply, ↓upO_some, ↓upO_none, ↓ev_tmp, ↓ev_const, ↓ev_func, ↓ev_global, init, Nat.reduceEqDiff, Nat.reduceAdd, Nat.reduceMul, Nat.reduceSub, ↓reduceIte, Int.reduceEq, Int.reduceNe, Nat.reduceLeDiff, one, Value.cells, Int.reduceLE, Int.reduceLT, Int.reduceToNat, add_mk, reduceCtorEq, tyF, zerOut]
  have hm1 := more_alloc w (.cells #[.slice none 0 0] 50)
  have ho1 := out_made w
  have s1 := size_alloc w (.cells #[.slice none 0 0] 50)
  generalize w.alloc (.cells #[.slice none 0 0] 50) = w1 at hm1 ho1 s1 ⊢
  refine call_ok Try.call38 (out_u16 w1 _ _ _ _ _ 258 ho1 (by simp) (by omega) (by omega)) ?_
  rintro _ w2 ⟨rfl, A2, c2, ho2, hmod2, _⟩
  have hm2 : More w w2 := Mod.more hm1 hmod2 fun k hk hh => by
    have := ho1.ge hh
    omega
  have e2 : [] ++ numB 258 2 = [1, 2] := by decide
  rw [e2] at ho2
  simp (config := {maxSteps := 1000000}) only [↓zvD, zvU, ↓up_apply, ↓hv_apply, ↓upO_some, ↓upO_none, ↓ev_tmp, ↓ev_const, ↓ev_func, ↓ev_global, init, Nat.reduceEqDiff, Nat.reduceAdd, Nat.reduceMul, Nat.reduceSub, ↓reduceIte, Int.reduceEq, Int.reduceNe, Nat.reduceLeDiff, one, Value.cells, Int.reduceLE, Int.reduceLT, Int.reduceToNat, add_mk, reduceCtorEq, tyF]
  refine call_ok Try.call30 (out_bytes w2 _ _ _ _ _ ho2 (by simp)) ?_
  rintro _ w3 ⟨A3, c3, rfl, ho3, hm3⟩
  have y3 := conv_eq (P := Try.prog) (w := w3) Try.underlying23 Try.underlying5 Try.underlying9 ho3.cs c3
  have e3 : (ByteArray.mk #[1, 2]) = bstr [1, 2] := rfl
  simp (config := {maxSteps := 1000000}) only [↓zvD, zvU, ↓up_apply, ↓hv_apply, ↓upO_some, ↓upO_none, ↓ev_tmp, ↓ev_const, ↓ev_func, ↓ev_global, init, Nat.reduceEqDiff, Nat.reduceAdd, Nat.reduceMul, Nat.reduceSub, ↓reduceIte, Int.reduceEq, Int.reduceNe, Nat.reduceLeDiff, one, Value.cells, Int.reduceLE, Int.reduceLT, Int.reduceToNat, add_mk, reduceCtorEq, tyF, y3, e3, str_eq]
  have hm13 := hm2.trans hm3
  refine bslice (z := .int .u8 0) (cells := (([7] : List UInt8).map byteV).toArray) Try.underlying23 byteE (by omega) (by have := bcells_list (z := .int .u8 0) (([7] : List UInt8).map byteV) (by intro v hv; obtain ⟨b, _, rfl⟩ := List.mem_map.1 hv; rfl); exact this) ?_
  have hm4 := more_alloc w3 (.cells (([7] : List UInt8).map byteV).toArray 5)
  have hb4 := Blk.new w3 5 (([7] : List UInt8).map byteV).toArray
  generalize w3.alloc (.cells (([7] : List UInt8).map byteV).toArray 5) = w4 at hm4 hb4 ⊢
  simp (config := {maxSteps := 1000000}) only [↓zvD, zvU, ↓up_apply, ↓hv_apply, ↓upO_some, ↓upO_none, ↓ev_tmp, ↓ev_const, ↓ev_func, ↓ev_global, init, Nat.reduceEqDiff, Nat.reduceAdd, Nat.reduceMul, Nat.reduceSub, ↓reduceIte, Int.reduceEq, Int.reduceNe, Nat.reduceLeDiff, one, Value.cells, Int.reduceLE, Int.reduceLT, Int.reduceToNat, add_mk, reduceCtorEq, tyF]
  refine call_ok Try.call22 (cur_new w4 _ [7] 1 hb4.cs (by simp)) ?_
  rintro _ w5 ⟨q, rfl, hq, hI, hm5⟩
  simp (config := {maxSteps := 1000000}) only [↓zvD, zvU, ↓up_apply, ↓hv_apply, ↓upO_some, ↓upO_none, ↓ev_tmp, ↓ev_const, ↓ev_func, ↓ev_global, init, Nat.reduceEqDiff, Nat.reduceAdd, Nat.reduceMul, Nat.reduceSub, ↓reduceIte, Int.reduceEq, Int.reduceNe, Nat.reduceLeDiff, one, Value.cells, Int.reduceLE, Int.reduceLT, Int.reduceToNat, add_mk, reduceCtorEq, tyF]
  refine call_ok Try.call44 (cur_u8 w5 _ q _ hI (by simp)) ?_
  rintro _ w6 ⟨rfl, hI6, hb6⟩
  have e6 : be ((InM.mk [7] false).take 1).1 = 7 := by decide
  rw [e6]
  simp (config := {maxSteps := 1000000}) only [↓zvD, zvU, ↓up_apply, ↓hv_apply, ↓upO_some, ↓upO_none, ↓ev_tmp, ↓ev_const, ↓ev_func, ↓ev_global, init, Nat.reduceEqDiff, Nat.reduceAdd, Nat.reduceMul, Nat.reduceSub, ↓reduceIte, Int.reduceEq, Int.reduceNe, Nat.reduceLeDiff, one, Value.cells, Int.reduceLE, Int.reduceLT, Int.reduceToNat, add_mk, reduceCtorEq, tyF]
  exact more_but ((hm13.trans hm4).trans hm5) hb6 (Nat.le_trans (hm13.trans hm4).size hq)

theorem cursor_parts (w : World) (A : Option Addr) (l : List UInt8) (c : Nat) (A' : Option Addr) (m : List UInt8) (c' : Nat) (hA : Bs w A l) (hA' : Bs w A' m) (hlc : l.length ≤ 140737488355328) (hmc : m.length ≤ 140737488355328) :
    Ret Try.prog 6 #[.slice A l.length c, .slice A' m.length c'] w fun v w' => v = .bool true ∧ More w w' := by
  refine ret_of Try.func6 rfl (by kernel_rfl) (Nat.le_of_ble_eq_true (by kernel_rfl)) ?_
  simp (config := {maxSteps := 1000000}) only [↓zvD, zvU, ↓up_apply, ↓hv_apply, ↓upO_some, ↓upO_none, ↓ev_tmp, ↓ev_const, ↓ev_func, ↓ev_global, init, Nat.reduceEqDiff, Nat.reduceAdd, Nat.reduceMul, Nat.reduceSub, ↓reduceIte, Int.reduceEq, Int.reduceNe, Nat.reduceLeDiff, one, Value.cells, Int.reduceLE, Int.reduceLT, Int.reduceToNat, add_mk, reduceCtorEq, tyF]
  refine call_ok Try.call21 (law02_awake w) ?_
  rintro _ w1 ⟨rfl, hm1⟩
  have skip : ∀ w1', More w w1' → callP Try.prog (.func (.func 21) #[] #[]) #[] w1' (fun v w' => v = .bool true ∧ More w w') := fun w1' hm =>
    call_ok Try.call21 (law02_awake w1') fun v w2 ⟨hv, hm2⟩ => ⟨hv, hm.trans hm2⟩
  have e0 : IntKind.i64.wrap ((l.length : Int) + m.length) = (l.length : Int) + m.length := w64 (by omega) (by omega)
  simp (config := {maxSteps := 1000000}) only [↓zvD, zvU, ↓up_apply, ↓hv_apply, ↓upO_some, ↓upO_none, ↓ev_tmp, ↓ev_const, ↓ev_func, ↓ev_global, init, Nat.reduceEqDiff, Nat.reduceAdd, Nat.reduceMul, Nat.reduceSub, ↓reduceIte, Int.reduceEq, Int.reduceNe, Nat.reduceLeDiff, one, Value.cells, Int.reduceLE, Int.reduceLT, Int.reduceToNat, add_mk, reduceCtorEq, tyF, e0]
  refine ⟨fun h1 => ?_, fun h1 => ?_⟩
  · refine call_ok Try.call21 (law02_awake w1) ?_
    rintro _ w2 ⟨rfl, hm2⟩
    simp (config := {maxSteps := 1000000}) only [↓zvD, zvU, ↓up_apply, ↓hv_apply, ↓upO_some, ↓upO_none, ↓ev_tmp, ↓ev_const, ↓ev_func, ↓ev_global, init, Nat.reduceEqDiff, Nat.reduceAdd, Nat.reduceMul, Nat.reduceSub, ↓reduceIte, Int.reduceEq, Int.reduceNe, Nat.reduceLeDiff, one, Value.cells, Int.reduceLE, Int.reduceLT, Int.reduceToNat, add_mk, reduceCtorEq, tyF]
    exact hm1.trans hm2
  refine bslice (z := .int .u8 0) (cells := #[]) Try.underlying23 byteE (by omega) (bcells_list [] (by simp)) ?_
  simp (config := {maxSteps := 1000000}) only [↓zvD, zvU, ↓up_apply, ↓hv_apply, ↓upO_some, ↓upO_none, ↓ev_tmp, ↓ev_const, ↓ev_func, ↓ev_global, init, Nat.reduceEqDiff, Nat.reduceAdd, Nat.reduceMul, Nat.reduceSub, ↓reduceIte, Int.reduceEq, Int.reduceNe, Nat.reduceLeDiff, one, Value.cells, Int.reduceLE, Int.reduceLT, Int.reduceToNat, add_mk, reduceCtorEq, tyF]
  have hm2 := more_alloc w1 (.cells #[] 5)
  have s2 : (w1.alloc (.cells #[] 5)).heap.size = w1.heap.size + 1 := size_alloc _ _
  have own0 := Own.made w1 5 1 #[] 0 rfl (by simp [maxLen]) (B := w1.heap.size) (Nat.le_refl _)
  generalize w1.alloc (.cells #[] 5) = w2 at hm2 s2 own0 ⊢
  have hm12 := hm1.trans hm2
  refine app_own (m := l.length) Try.underlying23 byteE rfl (by omega) own0 (hA.more hm12) (by simp) (byteV_one _) (by simp only [maxLen]; omega) (by omega) (by omega) ?_
  intro A3 c3 w3 ho3 hg3 _
  have hm3 : More w1 w3 := grown_below own0 hm2 (by omega) hg3
  have s3 := hg3.size
  rw [Nat.zero_add, show (#[] : Array Value).toList = [] from rfl, List.nil_append] at ho3
  rw [Nat.zero_add]
  simp (config := {maxSteps := 1000000}) only [↓zvD, zvU, ↓up_apply, ↓hv_apply, ↓upO_some, ↓upO_none, ↓ev_tmp, ↓ev_const, ↓ev_func, ↓ev_global, init, Nat.reduceEqDiff, Nat.reduceAdd, Nat.reduceMul, Nat.reduceSub, ↓reduceIte, Int.reduceEq, Int.reduceNe, Nat.reduceLeDiff, one, Value.cells, Int.reduceLE, Int.reduceLT, Int.reduceToNat, add_mk, reduceCtorEq, tyF]
  refine app_own (m := m.length) (B := w1.heap.size) Try.underlying23 byteE rfl (by omega) ho3 (hA'.more (hm1.trans hm3)) (by simp) (byteV_one _) (by simp only [maxLen]; omega) (by omega) (by omega) ?_
  intro A4 c4 w4 ho4 hg4 _
  have hm4 : More w w4 := hm1.trans (grown_below ho3 hm3 (by omega) hg4)
  rw [← List.map_append] at ho4
  have hL : l.length + m.length = (l ++ m).length := by simp
  rw [hL] at ho4 ⊢
  simp (config := {maxSteps := 1000000}) only [↓zvD, zvU, ↓up_apply, ↓hv_apply, ↓upO_some, ↓upO_none, ↓ev_tmp, ↓ev_const, ↓ev_func, ↓ev_global, init, Nat.reduceEqDiff, Nat.reduceAdd, Nat.reduceMul, Nat.reduceSub, ↓reduceIte, Int.reduceEq, Int.reduceNe, Nat.reduceLeDiff, one, Value.cells, Int.reduceLE, Int.reduceLT, Int.reduceToNat, add_mk, reduceCtorEq, tyF]
  refine call_ok Try.call22 (cur_new w4 A4 (l ++ m) c4 ho4.cs (by omega)) ?_
  rintro _ w5 ⟨q, rfl, hq, hI5, hm5⟩
  have hs4 := hm4.size
  have hq0 : w.heap.size ≤ q := by omega
  have hm5 := hm4.trans hm5
  simp (config := {maxSteps := 1000000}) only [↓zvD, zvU, ↓up_apply, ↓hv_apply, ↓upO_some, ↓upO_none, ↓ev_tmp, ↓ev_const, ↓ev_func, ↓ev_global, init, Nat.reduceEqDiff, Nat.reduceAdd, Nat.reduceMul, Nat.reduceSub, ↓reduceIte, Int.reduceEq, Int.reduceNe, Nat.reduceLeDiff, one, Value.cells, Int.reduceLE, Int.reduceLT, Int.reduceToNat, add_mk, reduceCtorEq, tyF]
  refine call_ok Try.call23 (cur_raw w5 _ q _ l.length hI5 (by show (l ++ m).length ≤ _; omega)) ?_
  rintro _ w6 ⟨A6, c6, rfl, ho6, hI6, hb6⟩
  have t6 : (InM.mk (l ++ m) false).take l.length = (l, ⟨m, false⟩) := by
    rw [take_ok (by simp)]
    simp
  rw [t6] at ho6 hI6
  rw [t6]
  have hm6 := more_but hm5 hb6 hq0
  simp (config := {maxSteps := 1000000}) only [↓zvD, zvU, ↓up_apply, ↓hv_apply, ↓upO_some, ↓upO_none, ↓ev_tmp, ↓ev_const, ↓ev_func, ↓ev_global, init, Nat.reduceEqDiff, Nat.reduceAdd, Nat.reduceMul, Nat.reduceSub, ↓reduceIte, Int.reduceEq, Int.reduceNe, Nat.reduceLeDiff, one, Value.cells, Int.reduceLE, Int.reduceLT, Int.reduceToNat, add_mk, reduceCtorEq, tyF]
  refine call_ok Try.call23 (cur_raw w6 _ q _ m.length hI6 (by show m.length ≤ _; omega)) ?_
  rintro _ w7 ⟨A7, c7, rfl, ho7, hI7, hb7⟩
  have t7 : (InM.mk m false).take m.length = (m, ⟨[], false⟩) := by
    rw [take_ok (by simp)]
    simp
  rw [t7] at ho7 hI7
  rw [t7]
  have hm7 := more_but hm6 hb7 hq0
  simp (config := {maxSteps := 1000000}) only [↓zvD, zvU, ↓up_apply, ↓hv_apply, ↓upO_some, ↓upO_none, ↓ev_tmp, ↓ev_const, ↓ev_func, ↓ev_global, init, Nat.reduceEqDiff, Nat.reduceAdd, Nat.reduceMul, Nat.reduceSub, ↓reduceIte, Int.reduceEq, Int.reduceNe, Nat.reduceLeDiff, one, Value.cells, Int.reduceLE, Int.reduceLT, Int.reduceToNat, add_mk, reduceCtorEq, tyF]
  refine call_ok Try.call24 (cur_done w7 _ q _ hI7) ?_
  rintro _ w8 ⟨rfl, rfl⟩
  have e8 : InM.done ⟨[], false⟩ = true := rfl
  rw [e8]
  have hne : ∀ a, A6 = some a → a.block ≠ q := fun a ha hh => by
    have := (ho6.atB_ge ⟨a, ha, rfl⟩).1
    obtain ⟨_, _, hb, _⟩ := hI5
    have := hb.lt
    omega
  have hA6 := hb7.bs ho6.cs hne
  have y6 := conv_eq (P := Try.prog) (w := w8) Try.underlying23 Try.underlying5 Try.underlying9 hA6 c6
  have y7 := conv_eq (P := Try.prog) (w := w8) Try.underlying23 Try.underlying5 Try.underlying9 ho7.cs c7
  have y8 := conv_eq (P := Try.prog) (w := w8) Try.underlying23 Try.underlying5 Try.underlying9 (hA.more hm7) c
  have y9 := conv_eq (P := Try.prog) (w := w8) Try.underlying23 Try.underlying5 Try.underlying9 (hA'.more hm7) c'
  simp (config := {maxSteps := 1000000}) only [↓zvD, zvU, ↓up_apply, ↓hv_apply, ↓upO_some, ↓upO_none, ↓ev_tmp, ↓ev_const, ↓ev_func, ↓ev_global, init, Nat.reduceEqDiff, Nat.reduceAdd, Nat.reduceMul, Nat.reduceSub, ↓reduceIte, Int.reduceEq, Int.reduceNe, Nat.reduceLeDiff, one, Value.cells, Int.reduceLE, Int.reduceLT, Int.reduceToNat, add_mk, reduceCtorEq, tyF, y6, y7, y8, y9, str_eq]
  refine call_ok Try.call23 (cur_raw w8 _ q _ 1 hI7 (by simp)) ?_
  rintro _ w9 ⟨A9, c9, rfl, ho9, hI9, hb9⟩
  have t9 : (InM.mk [] false).take 1 = ([], ⟨[], true⟩) := rfl
  rw [t9] at ho9 hI9
  rw [t9]
  simp (config := {maxSteps := 1000000}) only [↓zvD, zvU, ↓up_apply, ↓hv_apply, ↓upO_some, ↓upO_none, ↓ev_tmp, ↓ev_const, ↓ev_func, ↓ev_global, init, Nat.reduceEqDiff, Nat.reduceAdd, Nat.reduceMul, Nat.reduceSub, ↓reduceIte, Int.reduceEq, Int.reduceNe, Nat.reduceLeDiff, one, Value.cells, Int.reduceLE, Int.reduceLT, Int.reduceToNat, add_mk, reduceCtorEq, tyF, List.length_nil]
  refine call_ok Try.call25 (cur_bad w9 _ q _ hI9) ?_
  rintro _ w10 ⟨rfl, rfl⟩
  simp (config := {maxSteps := 1000000}) only [↓zvD, zvU, ↓up_apply, ↓hv_apply, ↓upO_some, ↓upO_none, ↓ev_tmp, ↓ev_const, ↓ev_func, ↓ev_global, init, Nat.reduceEqDiff, Nat.reduceAdd, Nat.reduceMul, Nat.reduceSub, ↓reduceIte, Int.reduceEq, Int.reduceNe, Nat.reduceLeDiff, one, Value.cells, Int.reduceLE, Int.reduceLT, Int.reduceToNat, add_mk, reduceCtorEq, tyF]
  exact more_but hm7 hb9 hq0
theorem none_raw (w : World) (A : Option Addr) (n c : Nat) : Ret Try.prog 29 #[.pointer none, .slice A n c] w fun v w' => v = .tuple #[] ∧ w' = w := by
  refine ret_of Try.func29 rfl (by kernel_rfl) (Nat.le_of_ble_eq_true (by kernel_rfl)) ?_
  simp (config := {maxSteps := 1000000}) only [↓zvD, zvU, ↓up_apply, ↓hv_apply, ↓upO_some, ↓upO_none, ↓ev_tmp, ↓ev_const, ↓ev_func, ↓ev_global, init, Nat.reduceEqDiff, Nat.reduceAdd, Nat.reduceMul, Nat.reduceSub, ↓reduceIte, Int.reduceEq, Int.reduceNe, Nat.reduceLeDiff, one, Value.cells, Int.reduceLE, Int.reduceLT, Int.reduceToNat, add_mk, reduceCtorEq, tyF]
theorem none_bytes (w : World) : Ret Try.prog 30 #[.pointer none] w fun v w' => v = .slice none 0 0 ∧ w' = w := by
  refine ret_of Try.func30 rfl (by kernel_rfl) (Nat.le_of_ble_eq_true (by kernel_rfl)) ?_
  simp (config := {maxSteps := 1000000}) only [↓zvD, zvU, ↓up_apply, ↓hv_apply, ↓upO_some, ↓upO_none, ↓ev_tmp, ↓ev_const, ↓ev_func, ↓ev_global, init, Nat.reduceEqDiff, Nat.reduceAdd, Nat.reduceMul, Nat.reduceSub, ↓reduceIte, Int.reduceEq, Int.reduceNe, Nat.reduceLeDiff, one, Value.cells, Int.reduceLE, Int.reduceLT, Int.reduceToNat, add_mk, reduceCtorEq, tyF]
theorem none_number (w : World) (n : Int) (hn : 0 ≤ n) : Ret Try.prog 53 #[.pointer none, .int .u64 n, .int .i64 8] w fun v w' => v = .tuple #[] ∧ More w w' := by
  refine ret_of Try.func53 rfl (by kernel_rfl) (Nat.le_of_ble_eq_true (by kernel_rfl)) ?_
  have e0 : IntKind.i64.wrap (8 - 1) = 7 := w64 (by omega) (by omega)
  simp (config := {maxSteps := 1000000}) only [↓zvD, zvU, ↓up_apply, ↓hv_apply, ↓upO_some, ↓upO_none, ↓ev_tmp, ↓ev_const, ↓ev_func, ↓ev_global, init, Nat.reduceEqDiff, Nat.reduceAdd, Nat.reduceMul, Nat.reduceSub, ↓reduceIte, Int.reduceEq, Int.reduceNe, Nat.reduceLeDiff, one, Value.cells, Int.reduceLE, Int.reduceLT, Int.reduceToNat, add_mk, reduceCtorEq, tyF, e0]
  refine loop_p [6, 7, 10, 11, 12, 13, 14, 15, 16, 17, 18, 19, 20, 21] (fun e w' => NumJ w n 8 (e 6) (e 7) w') (fun e _ => (numOf (e 7) + 1).toNat) ?_ ?_
  · refine ⟨8, none, 0, Nat.le_refl _, by simp [hv_apply, up_apply, upO_some, upO_none, init, List.mem_cons, true_or, or_true, if_true, if_false, ↓reduceIte, Nat.reduceEqDiff, false_or, or_false, List.not_mem_nil, List.getElem?_cons_zero, List.getElem?_cons_succ, Option.getD_some], by simp [hv_apply, up_apply, upO_some, upO_none, init, List.mem_cons, true_or, or_true, if_true, if_false, ↓reduceIte, Nat.reduceEqDiff, false_or, or_false, List.not_mem_nil, List.getElem?_cons_zero, List.getElem?_cons_succ, Option.getD_some], ?_, More.refl w⟩
    simpa using Own.nil _ _ _ _
  · rintro v w1 ⟨r, A1, c1, hrm, h7, h6, ho, hm1⟩
    simp only [hv_apply, up_apply, upO_some, upO_none, init, List.mem_cons, true_or, or_true, if_true, if_false, ↓reduceIte, Nat.reduceEqDiff, false_or, or_false, List.not_mem_nil, List.getElem?_cons_zero, List.getElem?_cons_succ, Option.getD_some] at h6 h7
    simp (config := {maxSteps := 1000000}) only [↓zvD, zvU, ↓up_apply, ↓hv_apply, ↓upO_some, ↓upO_none, ↓ev_tmp, ↓ev_const, ↓ev_func, ↓ev_global, init, Nat.reduceEqDiff, Nat.reduceAdd, Nat.reduceMul, Nat.reduceSub, ↓reduceIte, Int.reduceEq, Int.reduceNe, Nat.reduceLeDiff, one, Value.cells, Int.reduceLE, Int.reduceLT, Int.reduceToNat, add_mk, reduceCtorEq, tyF, h6, h7]
    refine ⟨fun h1 => ?_, fun h1 => ?_⟩
    · obtain ⟨r, rfl⟩ : ∃ r', r = r' + 1 := ⟨r - 1, by omega⟩
      have hd := dig_range n r
      have e1 : ((r + 1 : Nat) : Int) - 1 = (r : Int) := by omega
      have e2 : IntKind.i64.wrap (8 * (r : Int)) = 8 * (r : Int) := w64 (by omega) (by omega)
      have e3 : (0 : Int) ≤ 8 * (r : Int) := by omega
      have e4 : n.fdiv (2 ^ min (8 * (r : Int)).toNat IntKind.u64.bits) = n / (256 ^ r : Nat) := shr_dig hn rfl (by omega)
      have e5 : IntKind.i64.wrap ((r : Int) - 1) = (r : Int) - 1 := w64 (by omega) (by omega)
      simp (config := {maxSteps := 1000000}) only [↓zvD, zvU, ↓up_apply, ↓hv_apply, ↓upO_some, ↓upO_none, ↓ev_tmp, ↓ev_const, ↓ev_func, ↓ev_global, init, Nat.reduceEqDiff, Nat.reduceAdd, Nat.reduceMul, Nat.reduceSub, ↓reduceIte, Int.reduceEq, Int.reduceNe, Nat.reduceLeDiff, one, Value.cells, Int.reduceLE, Int.reduceLT, Int.reduceToNat, add_mk, reduceCtorEq, tyF, h6, h7, e1, e2, e3, e4, wrap_dig]
      refine bslice (z := .int .u8 0) (cells := #[.int .u8 (dig n r)]) Try.underlying23 byteE (by omega) (by have := bcells_list (z := .int .u8 0) [.int .u8 (dig n r)] (by intro v hv; simp at hv; subst hv; rfl); exact this) ?_
      simp (config := {maxSteps := 1000000}) only [↓zvD, zvU, ↓up_apply, ↓hv_apply, ↓upO_some, ↓upO_none, ↓ev_tmp, ↓ev_const, ↓ev_func, ↓ev_global, init, Nat.reduceEqDiff, Nat.reduceAdd, Nat.reduceMul, Nat.reduceSub, ↓reduceIte, Int.reduceEq, Int.reduceNe, Nat.reduceLeDiff, one, Value.cells, Int.reduceLE, Int.reduceLT, Int.reduceToNat, add_mk, reduceCtorEq, tyF, h6]
      have hm2 := more_alloc w1 (.cells #[.int .u8 (dig n r)] 5)
      have hb2 := Blk.new w1 5 #[.int .u8 (dig n r)]
      have s2 := size_alloc w1 (.cells #[.int .u8 (dig n r)] 5)
      have hs1 := hm1.size
      generalize w1.alloc (.cells #[.int .u8 (dig n r)] 5) = w2 at hm2 hb2 s2 ⊢
      refine app_own (m := 1) Try.underlying23 byteE rfl (by omega) (ho.more hm2) hb2.cs rfl (by intro u hu; simp at hu; subst hu; rfl) (by simp only [maxLen]; omega) (by omega) (by omega) ?_
      intro A3 c3 w3 ho3 hg3 _
      have hm3 : More w w3 := grown_below (ho.more hm2) (hm1.trans hm2) (by omega) hg3
      simp (config := {maxSteps := 1000000}) only [↓zvD, zvU, ↓up_apply, ↓hv_apply, ↓upO_some, ↓upO_none, ↓ev_tmp, ↓ev_const, ↓ev_func, ↓ev_global, init, Nat.reduceEqDiff, Nat.reduceAdd, Nat.reduceMul, Nat.reduceSub, ↓reduceIte, Int.reduceEq, Int.reduceNe, Nat.reduceLeDiff, one, Value.cells, Int.reduceLE, Int.reduceLT, Int.reduceToNat, add_mk, reduceCtorEq, tyF, h6, h7, e1, e5]
      refine ⟨⟨?_, r, A3, c3, by omega, rfl, by congr 1; omega, ?_, hm3⟩, by simp only [numOf]; omega⟩
      · repeat (first | exact Same.hv _ _ _ | refine Same.up (by simp) ?_)
      · rw [← numB_take n 8 r (by omega), List.map_append, List.map_singleton, byteV_u8 hd.1 hd.2, show 8 - r = 8 - (r + 1) + 1 by omega]
        exact ho3
    · try simp (config := {maxSteps := 1000000}) only [↓zvD, zvU, ↓up_apply, ↓hv_apply, ↓upO_some, ↓upO_none, ↓ev_tmp, ↓ev_const, ↓ev_func, ↓ev_global, init, Nat.reduceEqDiff, Nat.reduceAdd, Nat.reduceMul, Nat.reduceSub, ↓reduceIte, Int.reduceEq, Int.reduceNe, Nat.reduceLeDiff, one, Value.cells, Int.reduceLE, Int.reduceLT, Int.reduceToNat, add_mk, reduceCtorEq, tyF, h6]
      refine call_ok Try.call29 (none_raw w1 A1 (8 - r) c1) ?_
      rintro _ w2 ⟨rfl, rfl⟩
      try simp (config := {maxSteps := 1000000}) only [↓zvD, zvU, ↓up_apply, ↓hv_apply, ↓upO_some, ↓upO_none, ↓ev_tmp, ↓ev_const, ↓ev_func, ↓ev_global, init, Nat.reduceEqDiff, Nat.reduceAdd, Nat.reduceMul, Nat.reduceSub, ↓reduceIte, Int.reduceEq, Int.reduceNe, Nat.reduceLeDiff, one, Value.cells, Int.reduceLE, Int.reduceLT, Int.reduceToNat, add_mk, reduceCtorEq, tyF]
      exact hm1
theorem none_u64 (w : World) (n : Int) (hn : 0 ≤ n) : Ret Try.prog 40 #[.pointer none, .int .u64 n] w fun v w' => v = .tuple #[] ∧ More w w' := by
  refine ret_of Try.func40 rfl (by kernel_rfl) (Nat.le_of_ble_eq_true (by kernel_rfl)) ?_
  simp (config := {maxSteps := 1000000}) only [↓zvD, zvU, ↓up_apply, ↓hv_apply, ↓upO_some, ↓upO_none, ↓ev_tmp, ↓ev_const, ↓ev_func, ↓ev_global, init, Nat.reduceEqDiff, Nat.reduceAdd, Nat.reduceMul, Nat.reduceSub, ↓reduceIte, Int.reduceEq, Int.reduceNe, Nat.reduceLeDiff, one, Value.cells, Int.reduceLE, Int.reduceLT, Int.reduceToNat, add_mk, reduceCtorEq, tyF]
  refine call_ok Try.call53 (none_number w n hn) ?_
  rintro _ w2 ⟨rfl, h⟩
  simp (config := {maxSteps := 1000000}) only [↓zvD, zvU, ↓up_apply, ↓hv_apply, ↓upO_some, ↓upO_none, ↓ev_tmp, ↓ev_const, ↓ev_func, ↓ev_global, init, Nat.reduceEqDiff, Nat.reduceAdd, Nat.reduceMul, Nat.reduceSub, ↓reduceIte, Int.reduceEq, Int.reduceNe, Nat.reduceLeDiff, one, Value.cells, Int.reduceLE, Int.reduceLT, Int.reduceToNat, add_mk, reduceCtorEq, tyF]
  exact h
theorem cursor_nil (w : World) (n : Int) (hn : 0 ≤ n) : Ret Try.prog 16 #[.int .u64 n] w fun v w' => v = .bool true ∧ More w w' := by
  refine ret_of Try.func16 rfl (by kernel_rfl) (Nat.le_of_ble_eq_true (by kernel_rfl)) ?_
  simp (config := {maxSteps := 1000000}) only [↓zvD, zvU, ↓up_apply, ↓hv_apply, ↓upO_some, ↓upO_none, ↓ev_tmp, ↓ev_const, ↓ev_func, ↓ev_global, init, Nat.reduceEqDiff, Nat.reduceAdd, Nat.reduceMul, Nat.reduceSub, ↓reduceIte, Int.reduceEq, Int.reduceNe, Nat.reduceLeDiff, one, Value.cells, Int.reduceLE, Int.reduceLT, Int.reduceToNat, add_mk, reduceCtorEq, tyF]
  refine call_ok Try.call40 (none_u64 w n hn) ?_
  rintro _ w1 ⟨rfl, hm1⟩
  simp (config := {maxSteps := 1000000}) only [↓zvD, zvU, ↓up_apply, ↓hv_apply, ↓upO_some, ↓upO_none, ↓ev_tmp, ↓ev_const, ↓ev_func, ↓ev_global, init, Nat.reduceEqDiff, Nat.reduceAdd, Nat.reduceMul, Nat.reduceSub, ↓reduceIte, Int.reduceEq, Int.reduceNe, Nat.reduceLeDiff, one, Value.cells, Int.reduceLE, Int.reduceLT, Int.reduceToNat, add_mk, reduceCtorEq, tyF]
  refine bslice (z := .int .u8 0) (cells := #[.int .u8 1]) Try.underlying23 byteE (by omega) (by have := bcells_list (z := .int .u8 0) [.int .u8 1] (by intro v hv; simp at hv; subst hv; rfl); exact this) ?_
  have hm2 := more_alloc w1 (.cells #[.int .u8 1] 5)
  generalize w1.alloc (.cells #[.int .u8 1] 5) = w2 at hm2 ⊢
  simp (config := {maxSteps := 1000000}) only [↓zvD, zvU, ↓up_apply, ↓hv_apply, ↓upO_some, ↓upO_none, ↓ev_tmp, ↓ev_const, ↓ev_func, ↓ev_global, init, Nat.reduceEqDiff, Nat.reduceAdd, Nat.reduceMul, Nat.reduceSub, ↓reduceIte, Int.reduceEq, Int.reduceNe, Nat.reduceLeDiff, one, Value.cells, Int.reduceLE, Int.reduceLT, Int.reduceToNat, add_mk, reduceCtorEq, tyF]
  refine call_ok Try.call29 (none_raw w2 _ 1 1) ?_
  rintro _ w3 ⟨rfl, rfl⟩
  try simp (config := {maxSteps := 1000000}) only [↓zvD, zvU, ↓up_apply, ↓hv_apply, ↓upO_some, ↓upO_none, ↓ev_tmp, ↓ev_const, ↓ev_func, ↓ev_global, init, Nat.reduceEqDiff, Nat.reduceAdd, Nat.reduceMul, Nat.reduceSub, ↓reduceIte, Int.reduceEq, Int.reduceNe, Nat.reduceLeDiff, one, Value.cells, Int.reduceLE, Int.reduceLT, Int.reduceToNat, add_mk, reduceCtorEq, tyF]
  refine call_ok Try.call43 (nil_fail w3) ?_
  rintro _ w4 ⟨rfl, rfl⟩
  try simp (config := {maxSteps := 1000000}) only [↓zvD, zvU, ↓up_apply, ↓hv_apply, ↓upO_some, ↓upO_none, ↓ev_tmp, ↓ev_const, ↓ev_func, ↓ev_global, init, Nat.reduceEqDiff, Nat.reduceAdd, Nat.reduceMul, Nat.reduceSub, ↓reduceIte, Int.reduceEq, Int.reduceNe, Nat.reduceLeDiff, one, Value.cells, Int.reduceLE, Int.reduceLT, Int.reduceToNat, add_mk, reduceCtorEq, tyF]
  refine call_ok Try.call21 (law02_awake w4) ?_
  rintro _ w5 ⟨rfl, hm5⟩
  simp (config := {maxSteps := 1000000}) only [↓zvD, zvU, ↓up_apply, ↓hv_apply, ↓upO_some, ↓upO_none, ↓ev_tmp, ↓ev_const, ↓ev_func, ↓ev_global, init, Nat.reduceEqDiff, Nat.reduceAdd, Nat.reduceMul, Nat.reduceSub, ↓reduceIte, Int.reduceEq, Int.reduceNe, Nat.reduceLeDiff, one, Value.cells, Int.reduceLE, Int.reduceLT, Int.reduceToNat, add_mk, reduceCtorEq, tyF]
  refine call_ok Try.call30 (none_bytes w5) ?_
  rintro _ w6 ⟨rfl, rfl⟩
  simp (config := {maxSteps := 1000000}) only [↓zvD, zvU, ↓up_apply, ↓hv_apply, ↓upO_some, ↓upO_none, ↓ev_tmp, ↓ev_const, ↓ev_func, ↓ev_global, init, Nat.reduceEqDiff, Nat.reduceAdd, Nat.reduceMul, Nat.reduceSub, ↓reduceIte, Int.reduceEq, Int.reduceNe, Nat.reduceLeDiff, one, Value.cells, Int.reduceLE, Int.reduceLT, Int.reduceToNat, add_mk, reduceCtorEq, tyF]
  refine call_ok Try.call44 (nil_u8 w6) ?_
  rintro _ w7 ⟨rfl, rfl⟩
  simp (config := {maxSteps := 1000000}) only [↓zvD, zvU, ↓up_apply, ↓hv_apply, ↓upO_some, ↓upO_none, ↓ev_tmp, ↓ev_const, ↓ev_func, ↓ev_global, init, Nat.reduceEqDiff, Nat.reduceAdd, Nat.reduceMul, Nat.reduceSub, ↓reduceIte, Int.reduceEq, Int.reduceNe, Nat.reduceLeDiff, one, Value.cells, Int.reduceLE, Int.reduceLT, Int.reduceToNat, add_mk, reduceCtorEq, tyF]
  refine call_ok Try.call45 (nil_u64 w7) ?_
  rintro _ w8 ⟨rfl, rfl⟩
  simp (config := {maxSteps := 1000000}) only [↓zvD, zvU, ↓up_apply, ↓hv_apply, ↓upO_some, ↓upO_none, ↓ev_tmp, ↓ev_const, ↓ev_func, ↓ev_global, init, Nat.reduceEqDiff, Nat.reduceAdd, Nat.reduceMul, Nat.reduceSub, ↓reduceIte, Int.reduceEq, Int.reduceNe, Nat.reduceLeDiff, one, Value.cells, Int.reduceLE, Int.reduceLT, Int.reduceToNat, add_mk, reduceCtorEq, tyF]
  refine call_ok Try.call23 (nil_raw w8 1) ?_
  rintro _ w9 ⟨rfl, rfl⟩
  simp (config := {maxSteps := 1000000}) only [↓zvD, zvU, ↓up_apply, ↓hv_apply, ↓upO_some, ↓upO_none, ↓ev_tmp, ↓ev_const, ↓ev_func, ↓ev_global, init, Nat.reduceEqDiff, Nat.reduceAdd, Nat.reduceMul, Nat.reduceSub, ↓reduceIte, Int.reduceEq, Int.reduceNe, Nat.reduceLeDiff, one, Value.cells, Int.reduceLE, Int.reduceLT, Int.reduceToNat, add_mk, reduceCtorEq, tyF]
  refine call_ok Try.call31 (nil_left w9) ?_
  rintro _ w10 ⟨rfl, rfl⟩
  simp (config := {maxSteps := 1000000}) only [↓zvD, zvU, ↓up_apply, ↓hv_apply, ↓upO_some, ↓upO_none, ↓ev_tmp, ↓ev_const, ↓ev_func, ↓ev_global, init, Nat.reduceEqDiff, Nat.reduceAdd, Nat.reduceMul, Nat.reduceSub, ↓reduceIte, Int.reduceEq, Int.reduceNe, Nat.reduceLeDiff, one, Value.cells, Int.reduceLE, Int.reduceLT, Int.reduceToNat, add_mk, reduceCtorEq, tyF]
  refine call_ok Try.call25 (nil_bad w10) ?_
  rintro _ w11 ⟨rfl, rfl⟩
  simp (config := {maxSteps := 1000000}) only [↓zvD, zvU, ↓up_apply, ↓hv_apply, ↓upO_some, ↓upO_none, ↓ev_tmp, ↓ev_const, ↓ev_func, ↓ev_global, init, Nat.reduceEqDiff, Nat.reduceAdd, Nat.reduceMul, Nat.reduceSub, ↓reduceIte, Int.reduceEq, Int.reduceNe, Nat.reduceLeDiff, one, Value.cells, Int.reduceLE, Int.reduceLT, Int.reduceToNat, add_mk, reduceCtorEq, tyF]
  refine call_ok Try.call24 (nil_done w11) ?_
  rintro _ w12 ⟨rfl, rfl⟩
  simp (config := {maxSteps := 1000000}) only [↓zvD, zvU, ↓up_apply, ↓hv_apply, ↓upO_some, ↓upO_none, ↓ev_tmp, ↓ev_const, ↓ev_func, ↓ev_global, init, Nat.reduceEqDiff, Nat.reduceAdd, Nat.reduceMul, Nat.reduceSub, ↓reduceIte, Int.reduceEq, Int.reduceNe, Nat.reduceLeDiff, one, Value.cells, Int.reduceLE, Int.reduceLT, Int.reduceToNat, add_mk, reduceCtorEq, tyF]
  exact (hm1.trans hm2).trans hm5
end Go.Proofs.Ytejigcfdggkhgaa
