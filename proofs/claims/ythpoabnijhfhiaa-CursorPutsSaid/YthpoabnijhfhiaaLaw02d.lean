/-
  Layer 2: CursorPuts.
-/
import Derived.Test.YthpoabnijhfhiaaLaw02c
import Derived.Test.YthpoabnijhfhiaaCurPut
namespace Go.Proofs.Ythpoabnijhfhiaa
open Go Go.RowKit Go.Proofs.RV
set_option linter.unusedSimpArgs false
set_option linter.unusedVariables false
set_option maxRecDepth 10000
set_option maxHeartbeats 4000000

/-- numbers, each of its kind, as bytes -/
def bytesP (ps : List (Int × Int)) : List UInt8 := ps.flatMap fun x => numB x.1 (manyM x.2)
theorem bytesP_len (ps : List (Int × Int)) : (bytesP ps).length ≤ 8 * ps.length := by
  induction ps with
  | nil => simp [bytesP]
  | cons x ps ih =>
    have h := manyM_le x.2
    unfold bytesP at ih ⊢
    rw [List.flatMap_cons, List.length_append, numB_len, List.length_cons]
    omega
theorem bytesP_step (ps : List (Int × Int)) {k : Nat} {x : Int × Int} (h : ps[k]? = some x) : bytesP (ps.take (k + 1)) = bytesP (ps.take k) ++ numB x.1 (manyM x.2) := by
  unfold bytesP
  rw [List.take_add_one, h, Option.toList_some, List.flatMap_append]
  simp
theorem bytesP_drop (ps : List (Int × Int)) {k : Nat} {x : Int × Int} (h : ps[k]? = some x) : bytesP (ps.drop k) = numB x.1 (manyM x.2) ++ bytesP (ps.drop (k + 1)) := by
  unfold bytesP
  obtain ⟨hk, hx⟩ := List.getElem?_eq_some_iff.1 h
  rw [List.drop_eq_getElem_cons hk, List.flatMap_cons, hx]
def pairs (l : List Int) (ks : List UInt8) : List (Int × Int) := l.zip (ks.map fun b => (b.toNat : Int))
theorem pairs_len {l : List Int} {ks : List UInt8} (h : l.length ≤ ks.length) : (pairs l ks).length = l.length := by simp [pairs]; omega
theorem pairs_at {l : List Int} {ks : List UInt8} {k : Nat} (h : k < l.length) (h2 : l.length ≤ ks.length) : (pairs l ks)[k]? = some (l.getD k 0, bt ks k) := by
  have hk : k < ks.length := by omega
  simp [pairs, List.getElem?_zip_eq_some, h, hk, bt]
def u64s (l : List Int) : List Value := l.map (Value.int .u64)
theorem manyM_cases (k : Int) : manyM k = 1 ∨ manyM k = 2 ∨ manyM k = 4 ∨ manyM k = 8 := by
  have h : (k % 4).toNat = 0 ∨ (k % 4).toNat = 1 ∨ (k % 4).toNat = 2 ∨ (k % 4).toNat = 3 := by omega
  unfold manyM
  rcases h with h | h | h | h <;> rw [h] <;> simp
theorem wrap_num (x : Int) : (IntKind.u8.wrap x = x % (256 ^ 1 : Nat)) ∧ (IntKind.u16.wrap x = x % (256 ^ 2 : Nat)) ∧ (IntKind.u32.wrap x = x % (256 ^ 4 : Nat)) := by
  simp [IntKind.wrap, IntKind.signed, IntKind.bits]
def BsC (l : List UInt8) (v : Value) (w : World) : Prop := ∃ A c, v = .slice A l.length c ∧ Bs w A l ∧ l.length ≤ c
theorem keepsC (l : List UInt8) : Keeps (BsC l) := fun _ _ _ h ⟨A, c, e, hB, hc⟩ => ⟨A, c, e, hB.more h, hc⟩
def TakeF (y : Int) (v : Value) (_ : World) : Prop := ∃ A n c b, v = .tuple #[.int .u64 y, rin A n c b]
theorem keepsTake (y : Int) : Keeps (TakeF y) := fun _ _ _ _ h => h
def AlF (B : Nat) (v : Value) (w : World) : Prop := ∃ p, v = .pointer (some ⟨p, 0, none⟩) ∧ B ≤ p ∧ Blk w p 44 [.slice none 0 0, .bool false]
theorem keepsAl (B : Nat) : Keeps (AlF B) := fun _ _ _ h ⟨p, e, hp, hb⟩ => ⟨p, e, hp, hb.more h⟩
def PutJ (w : World) (ps : List (Int × Int)) (q B : Nat) (v6 v31 : Value) (w' : World) : Prop :=
  ∃ (k : Nat) (A : Option Addr) (c : Nat) (A6 : Option Addr) (c6 : Nat), v31 = .int .i64 k ∧ k ≤ ps.length ∧ OutAt w' q q A c (bytesP (ps.take k)) ∧ v6 = .slice A6 (bytesP (ps.take k)).length c6 ∧ Own w' B 5 1 A6 (bytesP (ps.take k)).length c6 ((bytesP (ps.take k)).map byteV) ∧
    (∀ i, outS q A i → atB A6 i → False) ∧ B ≤ w'.heap.size ∧ More w w'
theorem cursor_puts (w : World) (A : Option Addr) (l : List Int) (c : Nat) (hA : Cs w A (u64s l)) (hc : l.length ≤ c) (hr : ∀ x ∈ l, 0 ≤ x ∧ x < 18446744073709551616) (A' : Option Addr) (ks : List UInt8) (c' : Nat) (hA' : Bs w A' ks) (hc' : ks.length ≤ c') :
    Ret Try.prog 4 #[.slice A l.length c, .slice A' ks.length c'] w fun v w' => v = .bool true ∧ More w w' := by
  refine ret_of Try.func4 rfl (by kernel_rfl) (Nat.le_of_ble_eq_true (by kernel_rfl)) ?_
  simp (config := {maxSteps := 1000000}) only [↓zvD, zvU, ↓up_apply, ↓hv_apply, ↓upO_some, ↓upO_none, ↓ev_tmp, ↓ev_const, ↓ev_func, ↓ev_global, init, Nat.reduceEqDiff, Nat.reduceAdd, Nat.reduceMul, Nat.reduceSub, ↓reduceIte, Int.reduceEq, Int.reduceNe, Nat.reduceLeDiff, one, Value.cells, Int.reduceLE, Int.reduceLT, Int.reduceToNat, add_mk, reduceCtorEq, List.mem_range'_1, true_and, and_true, and_false, false_and, Nat.reduceLT, Nat.reduceLeDiff, tyF]
  refine call_ok Try.call16 (law02_awake w) ?_
  rintro _ w1 ⟨rfl, hm1⟩
  simp (config := {maxSteps := 1000000}) only [↓zvD, zvU, ↓up_apply, ↓hv_apply, ↓upO_some, ↓upO_none, ↓ev_tmp, ↓ev_const, ↓ev_func, ↓ev_global, init, Nat.reduceEqDiff, Nat.reduceAdd, Nat.reduceMul, Nat.reduceSub, ↓reduceIte, Int.reduceEq, Int.reduceNe, Nat.reduceLeDiff, one, Value.cells, Int.reduceLE, Int.reduceLT, Int.reduceToNat, add_mk, reduceCtorEq, List.mem_range'_1, true_and, and_true, and_false, false_and, Nat.reduceLT, Nat.reduceLeDiff, tyF]
  have skip : ∀ {K : Value → World → Prop}, (∀ w2, More w w2 → K (.bool true) w2) → callP Try.prog (.func (.func 16) #[] #[]) #[] w1 K := fun hK =>
    call_ok Try.call16 (law02_awake w1) fun v w2 ⟨hv, hm2⟩ => by rw [hv]; exact hK w2 (hm1.trans hm2)
  refine ⟨fun h100 => skip fun w2 hm2 => by (simp (config := {maxSteps := 1000000}) only [↓zvD, zvU, ↓up_apply, ↓hv_apply, ↓upO_some, ↓upO_none, ↓ev_tmp, ↓ev_const, ↓ev_func, ↓ev_global, init, Nat.reduceEqDiff, Nat.reduceAdd, Nat.reduceMul, Nat.reduceSub, ↓reduceIte, Int.reduceEq, Int.reduceNe, Nat.reduceLeDiff, one, Value.cells, Int.reduceLE, Int.reduceLT, Int.reduceToNat, add_mk, reduceCtorEq, List.mem_range'_1, true_and, and_true, and_false, false_and, Nat.reduceLT, Nat.reduceLeDiff, tyF]; exact hm2), fun h100 => ⟨fun hlt => skip fun w2 hm2 => by (simp (config := {maxSteps := 1000000}) only [↓zvD, zvU, ↓up_apply, ↓hv_apply, ↓upO_some, ↓upO_none, ↓ev_tmp, ↓ev_const, ↓ev_func, ↓ev_global, init, Nat.reduceEqDiff, Nat.reduceAdd, Nat.reduceMul, Nat.reduceSub, ↓reduceIte, Int.reduceEq, Int.reduceNe, Nat.reduceLeDiff, one, Value.cells, Int.reduceLE, Int.reduceLT, Int.reduceToNat, add_mk, reduceCtorEq, List.mem_range'_1, true_and, and_true, and_false, false_and, Nat.reduceLT, Nat.reduceLeDiff, tyF]; exact hm2), fun hlt => ?_⟩⟩
  have hlk : l.length ≤ ks.length := by omega
  have hpl := pairs_len hlk
  generalize hps : pairs l ks = ps at hpl
  have hpa : ∀ k, k < l.length → ps[k]? = some (l.getD k 0, bt ks k) := fun k hk => by rw [← hps]; exact pairs_at hk hlk
  have hrx : ∀ k, k < l.length → 0 ≤ l.getD k 0 ∧ l.getD k 0 < 18446744073709551616 := fun k hk => by
    rw [List.getD_eq_getElem?_getD, List.getElem?_eq_getElem hk]
    exact hr _ (List.getElem_mem _)
  have hcl : ∀ k, k < l.length → ∃ a, A = some a ∧ ∀ w', More w w' → w'.cell? (a.add k) = some (.int .u64 (l.getD k 0)) := fun k hk => by
    obtain ⟨a, ha, _⟩ := hA k (.int .u64 (l.getD k 0)) (by simp [u64s, hk])
    refine ⟨a, ha, fun w' hm => ?_⟩
    obtain ⟨a2, ha2, h⟩ := (hA.more hm) k (.int .u64 (l.getD k 0)) (by simp [u64s, hk])
    rw [ha] at ha2; cases ha2
    exact h
  have hck : ∀ k, k < l.length → ∃ a, A' = some a ∧ ∀ w', More w w' → w'.cell? (a.add k) = some (.int .u8 (bt ks k)) := fun k hk => by
    obtain ⟨a, ha⟩ := hA'.isAt (by omega)
    subst ha
    exact ⟨a, rfl, fun w' hm => (hA'.more hm).cellN (by omega)⟩
  simp (config := {maxSteps := 1000000}) only [↓zvD, zvU, ↓up_apply, ↓hv_apply, ↓upO_some, ↓upO_none, ↓ev_tmp, ↓ev_const, ↓ev_func, ↓ev_global, init, Nat.reduceEqDiff, Nat.reduceAdd, Nat.reduceMul, Nat.reduceSub, ↓reduceIte, Int.reduceEq, Int.reduceNe, Nat.reduceLeDiff, one, Value.cells, Int.reduceLE, Int.reduceLT, Int.reduceToNat, add_mk, reduceCtorEq, List.mem_range'_1, true_and, and_true, and_false, false_and, Nat.reduceLT, Nat.reduceLeDiff, tyF, zerOut]
  have hm2 := more_alloc w1 (.cells #[.slice none 0 0] 25)
  have ho2 := out_made w1
  have s2 := size_alloc w1 (.cells #[.slice none 0 0] 25)
  have s1 := hm1.size
  generalize hqq : w1.heap.size = q at ho2 s2
  generalize w1.alloc (.cells #[.slice none 0 0] 25) = w2 at hm2 ho2 s2 ⊢
  try rw [hqq]
  have hM2 := hm1.trans hm2
  refine loop_p (6 :: 7 :: 8 :: List.range' 31 48) (fun e w' => PutJ w ps q w2.heap.size (e 6) (e 31) w') (fun e _ => ps.length - (numOf (e 31)).toNat) ?_ ?_
  · exact ⟨0, none, 0, none, 0, by simp only [hv_apply, up_apply, upO_some, upO_none, init, List.mem_cons, List.mem_range'_1, true_and, and_true, and_false, false_and, Nat.reduceLT, Nat.reduceLeDiff, Nat.reduceAdd, true_or, or_true, if_true, if_false, ↓reduceIte, Nat.reduceEqDiff, false_or, or_false, List.not_mem_nil, List.getElem?_cons_zero, List.getElem?_cons_succ, Option.getD_some] <;> rfl, by omega, ho2, by simp only [hv_apply, up_apply, upO_some, upO_none, init, List.mem_cons, List.mem_range'_1, true_and, and_true, and_false, false_and, Nat.reduceLT, Nat.reduceLeDiff, Nat.reduceAdd, true_or, or_true, if_true, if_false, ↓reduceIte, Nat.reduceEqDiff, false_or, or_false, List.not_mem_nil, List.getElem?_cons_zero, List.getElem?_cons_succ, Option.getD_some] <;> rfl, Own.nil _ _ _ _, fun i _ h => atB_none i h, Nat.le_refl _, hM2⟩
  rintro v w3 ⟨k, A3, c3, A6, c6, h31, hk, ho3, h6, hw3, hd3, hB3, hM3⟩
  simp only [hv_apply, up_apply, upO_some, upO_none, init, List.mem_cons, List.mem_range'_1, true_and, and_true, and_false, false_and, Nat.reduceLT, Nat.reduceLeDiff, Nat.reduceAdd, true_or, or_true, if_true, if_false, ↓reduceIte, Nat.reduceEqDiff, false_or, or_false, List.not_mem_nil, List.getElem?_cons_zero, List.getElem?_cons_succ, Option.getD_some] at h31 h6
  have ek : IntKind.i64.wrap ((k : Int) + 1) = ((k + 1 : Nat) : Int) := w64 (by omega) (by omega)
  have gk : (0 : Int) ≤ (k : Int) := by omega
  simp (config := {maxSteps := 1000000}) only [↓zvD, zvU, ↓up_apply, ↓hv_apply, ↓upO_some, ↓upO_none, ↓ev_tmp, ↓ev_const, ↓ev_func, ↓ev_global, init, Nat.reduceEqDiff, Nat.reduceAdd, Nat.reduceMul, Nat.reduceSub, ↓reduceIte, Int.reduceEq, Int.reduceNe, Nat.reduceLeDiff, one, Value.cells, Int.reduceLE, Int.reduceLT, Int.reduceToNat, add_mk, reduceCtorEq, List.mem_range'_1, true_and, and_true, and_false, false_and, Nat.reduceLT, Nat.reduceLeDiff, tyF, h31, h6]
  refine ⟨fun h9 => ?_, fun h9 => ?_⟩
  · have hk1 : k < l.length := by omega
    have g9 : (k : Int) < ks.length := by omega
    obtain ⟨a, rfl, hca⟩ := hcl k hk1
    obtain ⟨a', rfl, hca'⟩ := hck k hk1
    have rx := hrx k hk1
    have hst := bytesP_step ps (hpa k hk1)
    have rk : 0 ≤ bt ks k ∧ bt ks k < 256 := ⟨bt_nonneg _ _, bt_lt _ _⟩
    generalize bt ks k = y at hca' hst rk
    generalize l.getD k 0 = x at hca hst rx
    have cx3 := hca w3 hM3
    have cy3 := hca' w3 hM3
    have hmn := manyM_le y
    simp (config := {maxSteps := 1000000}) only [↓zvD, zvU, ↓up_apply, ↓hv_apply, ↓upO_some, ↓upO_none, ↓ev_tmp, ↓ev_const, ↓ev_func, ↓ev_global, init, Nat.reduceEqDiff, Nat.reduceAdd, Nat.reduceMul, Nat.reduceSub, ↓reduceIte, Int.reduceEq, Int.reduceNe, Nat.reduceLeDiff, one, Value.cells, Int.reduceLE, Int.reduceLT, Int.reduceToNat, add_mk, reduceCtorEq, List.mem_range'_1, true_and, and_true, and_false, false_and, Nat.reduceLT, Nat.reduceLeDiff, tyF, h31, h6, gk, h9, g9, cy3, Int.toNat_natCast]
    refine call_ok Try.call22 (law02_many w3 y rk) ?_
    rintro _ w4 ⟨rfl, rfl⟩
    simp (config := {maxSteps := 1000000}) only [↓zvD, zvU, ↓up_apply, ↓hv_apply, ↓upO_some, ↓upO_none, ↓ev_tmp, ↓ev_const, ↓ev_func, ↓ev_global, init, Nat.reduceEqDiff, Nat.reduceAdd, Nat.reduceMul, Nat.reduceSub, ↓reduceIte, Int.reduceEq, Int.reduceNe, Nat.reduceLeDiff, one, Value.cells, Int.reduceLE, Int.reduceLT, Int.reduceToNat, add_mk, reduceCtorEq, List.mem_range'_1, true_and, and_true, and_false, false_and, Nat.reduceLT, Nat.reduceLeDiff, tyF, h31, h6, gk, h9, g9, cx3, Int.toNat_natCast]
    refine call_ok Try.call23 (ref_number w4 x (manyM y) rx.1 hmn.2) ?_
    rintro _ w5 ⟨A5, c5, rfl, ho5, hm5⟩
    have e8 := numB_len x (manyM y)
    have hbl := bytesP_len (ps.take k)
    have htl : (ps.take k).length = k := by rw [List.length_take]; omega
    rw [e8] at ho5 ⊢
    simp (config := {maxSteps := 1000000}) only [↓zvD, zvU, ↓up_apply, ↓hv_apply, ↓upO_some, ↓upO_none, ↓ev_tmp, ↓ev_const, ↓ev_func, ↓ev_global, init, Nat.reduceEqDiff, Nat.reduceAdd, Nat.reduceMul, Nat.reduceSub, ↓reduceIte, Int.reduceEq, Int.reduceNe, Nat.reduceLeDiff, one, Value.cells, Int.reduceLE, Int.reduceLT, Int.reduceToNat, add_mk, reduceCtorEq, List.mem_range'_1, true_and, and_true, and_false, false_and, Nat.reduceLT, Nat.reduceLeDiff, tyF, h31, h6]
    have s3 := hM3.size
    have s5 := hm5.size
    have hql := ho3.1.lt
    refine app_mod (m := manyM y) Try.underlying22 byteE rfl (by omega) (hw3.more hm5) ho5.cs (by rw [List.length_map, e8]; omega) (byteV_one _) (by simp only [maxLen]; omega) (by omega) (by omega) ?_
    intro A7 c7 w7 ho7 hm7 hat7
    have hM7 : More w w7 := hm7.more (hM3.trans hm5) (fun i hi hat => by have := hw3.atB_ge hat; omega)
    have out7 := (ho3.more hm5).mod hm7 (fun i hi hat => hd3 i hi hat)
    have s7 := hm7.size
    rw [← List.map_append, ← hst] at ho7
    have hln : (bytesP (ps.take k)).length + manyM y = (bytesP (ps.take (k + 1))).length := by rw [hst, List.length_append, e8]
    rw [hln] at ho7 ⊢
    have hd7 : ∀ i, outS q A3 i → atB A7 i → False := fun i h1 h2 => by
      rcases hat7 i h2 with h | h
      · exact hd3 i h1 h
      · have := (ho3.ge h1).2; omega
    have fin : ∀ w8, OutR w7 q q A3 (bytesP (ps.take (k + 1))) w8 → PutJ w ps q w2.heap.size (.slice A7 (bytesP (ps.take (k + 1))).length c7) (.int .i64 ((k + 1 : Nat) : Int)) w8 := by
      rintro w8 ⟨A8, c8, out8, hm8, hat8⟩
      refine ⟨k + 1, A8, c8, A7, c7, rfl, by omega, out8, rfl, hm8.own ho7 (fun z hz hS => hd7 _ hS ⟨z, hz, rfl⟩), fun i h1 h2 => ?_, by have := hm8.size; omega, out_more out7 hm8 hM7 (by omega)⟩
      rcases hat8 i h1 with h | h
      · exact hd7 i h h2
      · have := (ho7.atB_ge h2).2; omega
    have cx7 := hca w7 hM7
    have wn := wrap_num x
    have h900 : (bytesP (ps.take k)).length ≤ 900000 := by omega
    have hq7 : q ≤ w7.heap.size := by omega
    try simp (config := {maxSteps := 1000000}) only [↓zvD, zvU, ↓up_apply, ↓hv_apply, ↓upO_some, ↓upO_none, ↓ev_tmp, ↓ev_const, ↓ev_func, ↓ev_global, init, Nat.reduceEqDiff, Nat.reduceAdd, Nat.reduceMul, Nat.reduceSub, ↓reduceIte, Int.reduceEq, Int.reduceNe, Nat.reduceLeDiff, one, Value.cells, Int.reduceLE, Int.reduceLT, Int.reduceToNat, add_mk, reduceCtorEq, List.mem_range'_1, true_and, and_true, and_false, false_and, Nat.reduceLT, Nat.reduceLeDiff, tyF, h31, h6]
    rcases manyM_cases y with hy | hy | hy | hy
    · rw [hy]
      have hx1 := Int.emod_nonneg x (show ((256 ^ 1 : Nat) : Int) ≠ 0 by decide)
      have hx2 := Int.emod_lt_of_pos x (show 0 < ((256 ^ 1 : Nat) : Int) by decide)
      simp (config := {maxSteps := 1000000}) only [↓zvD, zvU, ↓up_apply, ↓hv_apply, ↓upO_some, ↓upO_none, ↓ev_tmp, ↓ev_const, ↓ev_func, ↓ev_global, init, Nat.reduceEqDiff, Nat.reduceAdd, Nat.reduceMul, Nat.reduceSub, ↓reduceIte, Int.reduceEq, Int.reduceNe, Nat.reduceLeDiff, one, Value.cells, Int.reduceLE, Int.reduceLT, Int.reduceToNat, add_mk, reduceCtorEq, List.mem_range'_1, true_and, and_true, and_false, false_and, Nat.reduceLT, Nat.reduceLeDiff, tyF, h31, h6, gk, h9, cx7, Int.toNat_natCast]
      rw [wn.1]
      refine call_ok Try.call24 (out_u8 w7 q q A3 c3 _ _ hx1 hx2 out7 h900 hq7) ?_
      rintro _ w8 ⟨rfl, h8⟩
      have he : [u8 (x % (256 ^ 1 : Nat))] = numB x (manyM y) := by
        rw [hy, ← numB_mod 1]
        show [u8 (x % (256 ^ 1 : Nat))] = [u8 (dig (x % (256 ^ 1 : Nat)) 0)]
        unfold dig
        congr 2
        simp at hx1 hx2 ⊢
      rw [he, ← hst] at h8
      have hx := fin w8 h8
      simp (config := {maxSteps := 1000000}) only [↓zvD, zvU, ↓up_apply, ↓hv_apply, ↓upO_some, ↓upO_none, ↓ev_tmp, ↓ev_const, ↓ev_func, ↓ev_global, init, Nat.reduceEqDiff, Nat.reduceAdd, Nat.reduceMul, Nat.reduceSub, ↓reduceIte, Int.reduceEq, Int.reduceNe, Nat.reduceLeDiff, one, Value.cells, Int.reduceLE, Int.reduceLT, Int.reduceToNat, add_mk, reduceCtorEq, List.mem_range'_1, true_and, and_true, and_false, false_and, Nat.reduceLT, Nat.reduceLeDiff, tyF, h31, ek]
      refine ⟨⟨?_, hx⟩, by simp only [numOf]; omega⟩
      repeat (first | exact Same.hv _ _ _ | refine Same.up (by simp) ?_)
    · rw [hy]
      have hx1 := Int.emod_nonneg x (show ((256 ^ 2 : Nat) : Int) ≠ 0 by decide)
      have hx2 := Int.emod_lt_of_pos x (show 0 < ((256 ^ 2 : Nat) : Int) by decide)
      simp (config := {maxSteps := 1000000}) only [↓zvD, zvU, ↓up_apply, ↓hv_apply, ↓upO_some, ↓upO_none, ↓ev_tmp, ↓ev_const, ↓ev_func, ↓ev_global, init, Nat.reduceEqDiff, Nat.reduceAdd, Nat.reduceMul, Nat.reduceSub, ↓reduceIte, Int.reduceEq, Int.reduceNe, Nat.reduceLeDiff, one, Value.cells, Int.reduceLE, Int.reduceLT, Int.reduceToNat, add_mk, reduceCtorEq, List.mem_range'_1, true_and, and_true, and_false, false_and, Nat.reduceLT, Nat.reduceLeDiff, tyF, h31, h6, gk, h9, cx7, Int.toNat_natCast]
      rw [wn.2.1]
      refine call_ok Try.call25 (out_u16 w7 q q A3 c3 _ _ out7 h900 ⟨hx1, hx2⟩ hq7) ?_
      rintro _ w8 ⟨rfl, h8⟩
      rw [numB_mod 2, ← hy, ← hst] at h8
      have hx := fin w8 h8
      simp (config := {maxSteps := 1000000}) only [↓zvD, zvU, ↓up_apply, ↓hv_apply, ↓upO_some, ↓upO_none, ↓ev_tmp, ↓ev_const, ↓ev_func, ↓ev_global, init, Nat.reduceEqDiff, Nat.reduceAdd, Nat.reduceMul, Nat.reduceSub, ↓reduceIte, Int.reduceEq, Int.reduceNe, Nat.reduceLeDiff, one, Value.cells, Int.reduceLE, Int.reduceLT, Int.reduceToNat, add_mk, reduceCtorEq, List.mem_range'_1, true_and, and_true, and_false, false_and, Nat.reduceLT, Nat.reduceLeDiff, tyF, h31, ek]
      refine ⟨⟨?_, hx⟩, by simp only [numOf]; omega⟩
      repeat (first | exact Same.hv _ _ _ | refine Same.up (by simp) ?_)
    · rw [hy]
      have hx1 := Int.emod_nonneg x (show ((256 ^ 4 : Nat) : Int) ≠ 0 by decide)
      have hx2 := Int.emod_lt_of_pos x (show 0 < ((256 ^ 4 : Nat) : Int) by decide)
      simp (config := {maxSteps := 1000000}) only [↓zvD, zvU, ↓up_apply, ↓hv_apply, ↓upO_some, ↓upO_none, ↓ev_tmp, ↓ev_const, ↓ev_func, ↓ev_global, init, Nat.reduceEqDiff, Nat.reduceAdd, Nat.reduceMul, Nat.reduceSub, ↓reduceIte, Int.reduceEq, Int.reduceNe, Nat.reduceLeDiff, one, Value.cells, Int.reduceLE, Int.reduceLT, Int.reduceToNat, add_mk, reduceCtorEq, List.mem_range'_1, true_and, and_true, and_false, false_and, Nat.reduceLT, Nat.reduceLeDiff, tyF, h31, h6, gk, h9, cx7, Int.toNat_natCast]
      rw [wn.2.2]
      refine call_ok Try.call26 (out_u32 w7 q q A3 c3 _ _ out7 h900 ⟨hx1, hx2⟩ hq7) ?_
      rintro _ w8 ⟨rfl, h8⟩
      rw [numB_mod 4, ← hy, ← hst] at h8
      have hx := fin w8 h8
      simp (config := {maxSteps := 1000000}) only [↓zvD, zvU, ↓up_apply, ↓hv_apply, ↓upO_some, ↓upO_none, ↓ev_tmp, ↓ev_const, ↓ev_func, ↓ev_global, init, Nat.reduceEqDiff, Nat.reduceAdd, Nat.reduceMul, Nat.reduceSub, ↓reduceIte, Int.reduceEq, Int.reduceNe, Nat.reduceLeDiff, one, Value.cells, Int.reduceLE, Int.reduceLT, Int.reduceToNat, add_mk, reduceCtorEq, List.mem_range'_1, true_and, and_true, and_false, false_and, Nat.reduceLT, Nat.reduceLeDiff, tyF, h31, ek]
      refine ⟨⟨?_, hx⟩, by simp only [numOf]; omega⟩
      repeat (first | exact Same.hv _ _ _ | refine Same.up (by simp) ?_)
    · rw [hy]
      simp (config := {maxSteps := 1000000}) only [↓zvD, zvU, ↓up_apply, ↓hv_apply, ↓upO_some, ↓upO_none, ↓ev_tmp, ↓ev_const, ↓ev_func, ↓ev_global, init, Nat.reduceEqDiff, Nat.reduceAdd, Nat.reduceMul, Nat.reduceSub, ↓reduceIte, Int.reduceEq, Int.reduceNe, Nat.reduceLeDiff, one, Value.cells, Int.reduceLE, Int.reduceLT, Int.reduceToNat, add_mk, reduceCtorEq, List.mem_range'_1, true_and, and_true, and_false, false_and, Nat.reduceLT, Nat.reduceLeDiff, tyF, h31, h6, gk, h9, cx7, Int.toNat_natCast]
      refine call_ok Try.call27 (out_u64 w7 q q A3 c3 _ _ out7 h900 rx.1 hq7) ?_
      rintro _ w8 ⟨rfl, h8⟩
      rw [← hy, ← hst] at h8
      have hx := fin w8 h8
      simp (config := {maxSteps := 1000000}) only [↓zvD, zvU, ↓up_apply, ↓hv_apply, ↓upO_some, ↓upO_none, ↓ev_tmp, ↓ev_const, ↓ev_func, ↓ev_global, init, Nat.reduceEqDiff, Nat.reduceAdd, Nat.reduceMul, Nat.reduceSub, ↓reduceIte, Int.reduceEq, Int.reduceNe, Nat.reduceLeDiff, one, Value.cells, Int.reduceLE, Int.reduceLT, Int.reduceToNat, add_mk, reduceCtorEq, List.mem_range'_1, true_and, and_true, and_false, false_and, Nat.reduceLT, Nat.reduceLeDiff, tyF, h31, ek]
      refine ⟨⟨?_, hx⟩, by simp only [numOf]; omega⟩
      repeat (first | exact Same.hv _ _ _ | refine Same.up (by simp) ?_)
  · obtain rfl : k = ps.length := by omega
    rw [List.take_length] at ho3 hw3 h6 ⊢
    have hWl := bytesP_len ps
    generalize hW : bytesP ps = W at ho3 hw3 hWl h6 ⊢
    have s3 := hM3.size
    refine call_ok Try.call17 (out_raw w3 q q A3 c3 W A6 W c6 ho3 hw3.cs (by omega) (by omega) (by omega)) ?_
    rintro _ w4 ⟨rfl, A4, c4, ho4, hm4, hat4⟩
    have hw4 := hm4.own hw3 (fun z hz hS => hd3 _ hS ⟨z, hz, rfl⟩)
    have hM4 := out_more ho3 hm4 hM3 (by omega)
    simp (config := {maxSteps := 1000000}) only [↓zvD, zvU, ↓up_apply, ↓hv_apply, ↓upO_some, ↓upO_none, ↓ev_tmp, ↓ev_const, ↓ev_func, ↓ev_global, init, Nat.reduceEqDiff, Nat.reduceAdd, Nat.reduceMul, Nat.reduceSub, ↓reduceIte, Int.reduceEq, Int.reduceNe, Nat.reduceLeDiff, one, Value.cells, Int.reduceLE, Int.reduceLT, Int.reduceToNat, add_mk, reduceCtorEq, List.mem_range'_1, true_and, and_true, and_false, false_and, Nat.reduceLT, Nat.reduceLeDiff, tyF]
    refine call_ok Try.call19 (out_bytes w4 q q A4 c4 (W ++ W) ho4 (by rw [List.length_append]; omega)) ?_
    rintro _ w5 ⟨A5, c5, rfl, ho5, hm5⟩
    have hM5 := hM4.trans hm5
    have y1 := conv_eq (P := Try.prog) (w := w5) Try.underlying22 Try.underlying5 Try.underlying9 ho5.cs c5
    have y2 := conv_eq (P := Try.prog) (w := w5) Try.underlying22 Try.underlying5 Try.underlying9 (hw4.more hm5).cs c6
    have hcat : bstr W ++ bstr W = bstr (W ++ W) := by
      apply ByteArray.ext
      simp [bstr, ByteArray.data_append]
    have hsz : (((bstr W).size + (bstr W).size : Nat) : Int) ≤ IntKind.i64.max := by
      rw [bstr_size]; simp [IntKind.max, IntKind.signed, IntKind.bits]; omega
    simp (config := {maxSteps := 1000000}) only [↓zvD, zvU, ↓up_apply, ↓hv_apply, ↓upO_some, ↓upO_none, ↓ev_tmp, ↓ev_const, ↓ev_func, ↓ev_global, init, Nat.reduceEqDiff, Nat.reduceAdd, Nat.reduceMul, Nat.reduceSub, ↓reduceIte, Int.reduceEq, Int.reduceNe, Nat.reduceLeDiff, one, Value.cells, Int.reduceLE, Int.reduceLT, Int.reduceToNat, add_mk, reduceCtorEq, List.mem_range'_1, true_and, and_true, and_false, false_and, Nat.reduceLT, Nat.reduceLeDiff, tyF, h6, y1, y2, hcat, beq_self_eq_true]
    refine ⟨hsz, ?_⟩
    try simp (config := {maxSteps := 1000000}) only [↓zvD, zvU, ↓up_apply, ↓hv_apply, ↓upO_some, ↓upO_none, ↓ev_tmp, ↓ev_const, ↓ev_func, ↓ev_global, init, Nat.reduceEqDiff, Nat.reduceAdd, Nat.reduceMul, Nat.reduceSub, ↓reduceIte, Int.reduceEq, Int.reduceNe, Nat.reduceLeDiff, one, Value.cells, Int.reduceLE, Int.reduceLT, Int.reduceToNat, add_mk, reduceCtorEq, List.mem_range'_1, true_and, and_true, and_false, false_and, Nat.reduceLT, Nat.reduceLeDiff, tyF, h6, y1, y2, hcat, beq_self_eq_true]
    refine call_ok Try.call18 (cur_new w5 A5 (W ++ W) c5 ho5.cs (by rw [List.length_append]; omega)) ?_
    rintro _ w6 ⟨q2, rfl, hq2, hI6, hm6⟩
    have hM6 := hM5.trans hm6
    try simp (config := {maxSteps := 1000000}) only [↓zvD, zvU, ↓up_apply, ↓hv_apply, ↓upO_some, ↓upO_none, ↓ev_tmp, ↓ev_const, ↓ev_func, ↓ev_global, init, Nat.reduceEqDiff, Nat.reduceAdd, Nat.reduceMul, Nat.reduceSub, ↓reduceIte, Int.reduceEq, Int.reduceNe, Nat.reduceLeDiff, one, Value.cells, Int.reduceLE, Int.reduceLT, Int.reduceToNat, add_mk, reduceCtorEq, List.mem_range'_1, true_and, and_true, and_false, false_and, Nat.reduceLT, Nat.reduceLeDiff, tyF]
    generalize hFF : (fun k => w5.heap.size ≤ k ∧ k < q2) = F at hI6
    have s45 := hm5.size
    have s56 := hm6.size
    have s34 := hm4.size
    have hwB : ∀ z, atB A6 z → z < w5.heap.size := fun z hz => by have := (hw4.atB_ge hz).2; omega
    have hw6 := (hw4.more hm5).more hm6
    refine loop_p (11 :: 12 :: 13 :: List.range' 93 33) (fun e w' => ∃ k : Nat, e 93 = .int .i64 k ∧ k ≤ ps.length ∧ InW w' F q2 ⟨bytesP (ps.drop k) ++ W, false⟩ ∧ Own w' w2.heap.size 5 1 A6 W.length c6 (W.map byteV) ∧ w5.heap.size ≤ w'.heap.size ∧ More w w') (fun e _ => ps.length - (numOf (e 93)).toNat) ?_ ?_
    · exact ⟨0, by simp only [hv_apply, up_apply, upO_some, upO_none, init, List.mem_cons, List.mem_range'_1, true_and, and_true, and_false, false_and, Nat.reduceLT, Nat.reduceLeDiff, Nat.reduceAdd, true_or, or_true, if_true, if_false, ↓reduceIte, Nat.reduceEqDiff, false_or, or_false, List.not_mem_nil, List.getElem?_cons_zero, List.getElem?_cons_succ, Option.getD_some] <;> rfl, by omega, by rw [List.drop_zero, hW]; exact hI6, hw6, by omega, hM6⟩
    rintro v w7 ⟨k, h93, hk, hI7, hw7, hs7, hM7⟩
    simp only [hv_apply, up_apply, upO_some, upO_none, init, List.mem_cons, List.mem_range'_1, true_and, and_true, and_false, false_and, Nat.reduceLT, Nat.reduceLeDiff, Nat.reduceAdd, true_or, or_true, if_true, if_false, ↓reduceIte, Nat.reduceEqDiff, false_or, or_false, List.not_mem_nil, List.getElem?_cons_zero, List.getElem?_cons_succ, Option.getD_some] at h93
    have ek : IntKind.i64.wrap ((k : Int) + 1) = ((k + 1 : Nat) : Int) := w64 (by omega) (by omega)
    have gk : (0 : Int) ≤ (k : Int) := by omega
    simp (config := {maxSteps := 1000000}) only [↓zvD, zvU, ↓up_apply, ↓hv_apply, ↓upO_some, ↓upO_none, ↓ev_tmp, ↓ev_const, ↓ev_func, ↓ev_global, init, Nat.reduceEqDiff, Nat.reduceAdd, Nat.reduceMul, Nat.reduceSub, ↓reduceIte, Int.reduceEq, Int.reduceNe, Nat.reduceLeDiff, one, Value.cells, Int.reduceLE, Int.reduceLT, Int.reduceToNat, add_mk, reduceCtorEq, List.mem_range'_1, true_and, and_true, and_false, false_and, Nat.reduceLT, Nat.reduceLeDiff, tyF, h93, h6]
    refine ⟨fun h9 => ?_, fun h9 => ?_⟩
    · have hk1 : k < l.length := by omega
      have g9 : (k : Int) < ks.length := by omega
      obtain ⟨a, rfl, hca⟩ := hcl k hk1
      obtain ⟨a', rfl, hca'⟩ := hck k hk1
      have rx := hrx k hk1
      have hst := bytesP_drop ps (hpa k hk1)
      have rk : 0 ≤ bt ks k ∧ bt ks k < 256 := ⟨bt_nonneg _ _, bt_lt _ _⟩
      generalize bt ks k = y at hca' hst rk
      generalize l.getD k 0 = x at hca hst rx
      have cx7 := hca w7 hM7
      have cy7 := hca' w7 hM7
      have hmn := manyM_le y
      have e8 := numB_len x (manyM y)
      have hfull : (numB x (manyM y)).take (manyM y) = numB x (manyM y) := List.take_of_length_le (by omega)
      refine draw_name fun K hK => ?_
      refine draw_seen 22 [[], [], [0, 1], [0, 1, 2], [], [], [4, 5], [4, 5, 6], [4, 5, 6, 7], [0, 1, 2, 3, 4, 5, 6, 7, 8], [0, 1, 2, 3, 4, 5, 6, 7, 8, 9], [], [], [11, 12], [11, 12, 13], [0, 1, 2, 3, 4, 5, 6, 7, 8, 9, 11, 12, 13, 14], [0, 1, 2, 3, 4, 5, 6, 7, 8, 9, 10, 11, 12, 13, 14, 15], [0, 1, 2, 3, 4, 5, 6, 7, 8, 9, 10, 11, 12, 13, 14, 15, 16], [0, 1, 2, 3, 4, 5, 6, 7, 8, 9, 10, 11, 12, 13, 14, 15, 16, 17], [0, 1, 2, 3, 4, 5, 6, 7, 8, 9, 10, 11, 12, 13, 14, 15, 16, 17], [], [0, 1, 2, 3, 4, 5, 6, 7, 8, 9, 10, 11, 12, 13, 14, 15, 16, 17, 18, 20], [0, 1, 2, 3, 4, 5, 6, 7, 8, 9, 10, 11, 12, 13, 14, 15, 16, 17, 18, 19, 20, 21]] (RV.look [(8, RV.IsV (.int .i64 (manyM y))), (9, BsC (numB x (manyM y))), (15, RV.IsV (.int .i64 (manyM y))), (16, TakeF (be (numB x (manyM y)))), (20, AlF w7.heap.size)]) mixed (by kernel_rfl) (by kernel_rfl) (look_keeps _ (by simp [keepsV, keepsC, keepsTake, keepsAl])) ?_
      simp (config := {maxSteps := 1000000}) only [↓zvD, zvU, ↓zqD, ↓up_apply, ↓hv_apply, ↓upO_some, ↓upO_none, ↓ev_tmp, ↓ev_const, ↓ev_func, ↓ev_global, init, Nat.reduceEqDiff, Nat.reduceAdd, Nat.reduceMul, Nat.reduceSub, ↓reduceIte, Int.reduceEq, Int.reduceNe, Nat.reduceLeDiff, one, Value.cells, Int.reduceLE, Int.reduceLT, Int.reduceToNat, add_mk, reduceCtorEq, List.mem_range'_1, true_and, and_true, and_false, false_and, Nat.reduceLT, Nat.reduceLeDiff, tyF, h93, h6, gk, h9, g9, cx7, cy7, Int.toNat_natCast]
      refine ⟨fun w8 hm8 => call_ok Try.call22 (law02_many w8 y rk) ?_, ?_⟩
      · rintro _ w9 ⟨rfl, rfl⟩
        try simp (config := {maxSteps := 1000000}) only [↓zvD, zvU, ↓zqD, ↓up_apply, ↓hv_apply, ↓upO_some, ↓upO_none, ↓ev_tmp, ↓ev_const, ↓ev_func, ↓ev_global, init, Nat.reduceEqDiff, Nat.reduceAdd, Nat.reduceMul, Nat.reduceSub, ↓reduceIte, Int.reduceEq, Int.reduceNe, Nat.reduceLeDiff, one, Value.cells, Int.reduceLE, Int.reduceLT, Int.reduceToNat, add_mk, reduceCtorEq, List.mem_range'_1, true_and, and_true, and_false, false_and, Nat.reduceLT, Nat.reduceLeDiff]
        exact ⟨More.refl _, rfl⟩
      rintro _ ⟨w8, hm8, rfl⟩
      simp (config := {maxSteps := 1000000}) only [↓zvD, zvU, ↓zqD, ↓up_apply, ↓hv_apply, ↓upO_some, ↓upO_none, ↓ev_tmp, ↓ev_const, ↓ev_func, ↓ev_global, init, Nat.reduceEqDiff, Nat.reduceAdd, Nat.reduceMul, Nat.reduceSub, ↓reduceIte, Int.reduceEq, Int.reduceNe, Nat.reduceLeDiff, one, Value.cells, Int.reduceLE, Int.reduceLT, Int.reduceToNat, add_mk, reduceCtorEq, List.mem_range'_1, true_and, and_true, and_false, false_and, Nat.reduceLT, Nat.reduceLeDiff, tyF, h93, h6, gk, h9, g9, cx7, cy7, Int.toNat_natCast]
      refine ⟨fun w8 hm8 _ => call_ok Try.call23 (ref_number w8 x (manyM y) rx.1 hmn.2) ?_, ?_⟩
      · rintro _ w9 ⟨A9, c9, rfl, ho9, hm9⟩
        try simp (config := {maxSteps := 1000000}) only [↓zvD, zvU, ↓zqD, ↓up_apply, ↓hv_apply, ↓upO_some, ↓upO_none, ↓ev_tmp, ↓ev_const, ↓ev_func, ↓ev_global, init, Nat.reduceEqDiff, Nat.reduceAdd, Nat.reduceMul, Nat.reduceSub, ↓reduceIte, Int.reduceEq, Int.reduceNe, Nat.reduceLeDiff, one, Value.cells, Int.reduceLE, Int.reduceLT, Int.reduceToNat, add_mk, reduceCtorEq, List.mem_range'_1, true_and, and_true, and_false, false_and, Nat.reduceLT, Nat.reduceLeDiff]
        exact ⟨hm9, A9, c9, by rw [e8], ho9.cs, by rw [e8]; have := ho9.le; omega⟩
      rintro _ ⟨w8, hm8, _, A9, c9, rfl, hB9, hc9⟩
      rw [e8]
      simp (config := {maxSteps := 1000000}) only [↓zvD, zvU, ↓zqD, ↓up_apply, ↓hv_apply, ↓upO_some, ↓upO_none, ↓ev_tmp, ↓ev_const, ↓ev_func, ↓ev_global, init, Nat.reduceEqDiff, Nat.reduceAdd, Nat.reduceMul, Nat.reduceSub, ↓reduceIte, Int.reduceEq, Int.reduceNe, Nat.reduceLeDiff, one, Value.cells, Int.reduceLE, Int.reduceLT, Int.reduceToNat, add_mk, reduceCtorEq, List.mem_range'_1, true_and, and_true, and_false, false_and, Nat.reduceLT, Nat.reduceLeDiff, tyF, h93, h6, gk, h9, g9, cx7, cy7, Int.toNat_natCast]
      rw [rin_build _ _ _ w7]
      simp (config := {maxSteps := 1000000}) only [↓zvD, zvU, ↓zqD, ↓up_apply, ↓hv_apply, ↓upO_some, ↓upO_none, ↓ev_tmp, ↓ev_const, ↓ev_func, ↓ev_global, init, Nat.reduceEqDiff, Nat.reduceAdd, Nat.reduceMul, Nat.reduceSub, ↓reduceIte, Int.reduceEq, Int.reduceNe, Nat.reduceLeDiff, one, Value.cells, Int.reduceLE, Int.reduceLT, Int.reduceToNat, add_mk, reduceCtorEq, List.mem_range'_1, true_and, and_true, and_false, false_and, Nat.reduceLT, Nat.reduceLeDiff, tyF, h93, h6, gk, h9, g9, cx7, cy7, Int.toNat_natCast]
      refine ⟨fun w8 hm8 _ => call_ok Try.call22 (law02_many w8 y rk) ?_, ?_⟩
      · rintro _ w9 ⟨rfl, rfl⟩
        try simp (config := {maxSteps := 1000000}) only [↓zvD, zvU, ↓zqD, ↓up_apply, ↓hv_apply, ↓upO_some, ↓upO_none, ↓ev_tmp, ↓ev_const, ↓ev_func, ↓ev_global, init, Nat.reduceEqDiff, Nat.reduceAdd, Nat.reduceMul, Nat.reduceSub, ↓reduceIte, Int.reduceEq, Int.reduceNe, Nat.reduceLeDiff, one, Value.cells, Int.reduceLE, Int.reduceLT, Int.reduceToNat, add_mk, reduceCtorEq, List.mem_range'_1, true_and, and_true, and_false, false_and, Nat.reduceLT, Nat.reduceLeDiff]
        exact ⟨More.refl _, rfl⟩
      rintro _ ⟨w8, hm8, _, rfl⟩
      simp (config := {maxSteps := 1000000}) only [↓zvD, zvU, ↓zqD, ↓up_apply, ↓hv_apply, ↓upO_some, ↓upO_none, ↓ev_tmp, ↓ev_const, ↓ev_func, ↓ev_global, init, Nat.reduceEqDiff, Nat.reduceAdd, Nat.reduceMul, Nat.reduceSub, ↓reduceIte, Int.reduceEq, Int.reduceNe, Nat.reduceLeDiff, one, Value.cells, Int.reduceLE, Int.reduceLT, Int.reduceToNat, add_mk, reduceCtorEq, List.mem_range'_1, true_and, and_true, and_false, false_and, Nat.reduceLT, Nat.reduceLeDiff, tyF, h93, h6, gk, h9, g9, cx7, cy7, Int.toNat_natCast]
      refine ⟨fun w8 hm8 hh => ?_, ?_⟩
      · obtain ⟨_, ⟨A9', c9', e9, hB9, hc9⟩, _⟩ := hh
        rw [e8] at e9
        cases e9
        have htk := ref_take_ok w8 A9 (numB x (manyM y)) c9 (manyM y) hB9 hc9 hmn.2 (by omega)
        rw [e8, hfull] at htk
        refine call_ok Try.call28 htk ?_
        rintro _ w9 ⟨rfl, hm9⟩
        try simp (config := {maxSteps := 1000000}) only [↓zvD, zvU, ↓zqD, ↓up_apply, ↓hv_apply, ↓upO_some, ↓upO_none, ↓ev_tmp, ↓ev_const, ↓ev_func, ↓ev_global, init, Nat.reduceEqDiff, Nat.reduceAdd, Nat.reduceMul, Nat.reduceSub, ↓reduceIte, Int.reduceEq, Int.reduceNe, Nat.reduceLeDiff, one, Value.cells, Int.reduceLE, Int.reduceLT, Int.reduceToNat, add_mk, reduceCtorEq, List.mem_range'_1, true_and, and_true, and_false, false_and, Nat.reduceLT, Nat.reduceLeDiff]
        exact ⟨hm9, _, _, _, _, rfl⟩
      rintro _ ⟨w8, hm8, _, A10, n10, c10, b10, rfl⟩
      simp (config := {maxSteps := 1000000}) only [↓zvD, zvU, ↓zqD, ↓up_apply, ↓hv_apply, ↓upO_some, ↓upO_none, ↓ev_tmp, ↓ev_const, ↓ev_func, ↓ev_global, init, Nat.reduceEqDiff, Nat.reduceAdd, Nat.reduceMul, Nat.reduceSub, ↓reduceIte, Int.reduceEq, Int.reduceNe, Nat.reduceLeDiff, one, Value.cells, Int.reduceLE, Int.reduceLT, Int.reduceToNat, add_mk, reduceCtorEq, List.mem_range'_1, true_and, and_true, and_false, false_and, Nat.reduceLT, Nat.reduceLeDiff, tyF, h93, h6, gk, h9, g9, cx7, cy7, zer44, Int.toNat_natCast]
      refine ⟨fun w8 hm8 => ⟨more_alloc _ _, w8.heap.size, rfl, hm8.size, Blk.new _ _ _⟩, ?_⟩
      rintro _ ⟨w8, hm8, _, p8, rfl, hp8, hb8⟩
      simp (config := {maxSteps := 1000000}) only [↓zvD, zvU, ↓zqD, ↓up_apply, ↓hv_apply, ↓upO_some, ↓upO_none, ↓ev_tmp, ↓ev_const, ↓ev_func, ↓ev_global, init, Nat.reduceEqDiff, Nat.reduceAdd, Nat.reduceMul, Nat.reduceSub, ↓reduceIte, Int.reduceEq, Int.reduceNe, Nat.reduceLeDiff, one, Value.cells, Int.reduceLE, Int.reduceLT, Int.reduceToNat, add_mk, reduceCtorEq, List.mem_range'_1, true_and, and_true, and_false, false_and, Nat.reduceLT, Nat.reduceLeDiff, tyF, h93, h6, gk, h9, g9, cx7, cy7, Int.toNat_natCast]
      intro w9 hm9 hh
      obtain ⟨_, _, _, _, p9, e9, _, hb9⟩ := hh
      cases e9
      refine st_all hb9 rfl rfl (by intro u hu; simp at hu; rcases hu with rfl | rfl <;> rfl) fun w10 j1 j2 => ?_
      refine hK _ _ ?_
      clear hK K
      have hM10 : More w w10 := j1.below (hM7.trans hm9) (by have := hM7.size; omega)
      have hI10 : InW w10 F q2 ⟨bytesP (ps.drop k) ++ W, false⟩ := (hI7.more hm9).mod (S := fun k => k = p8) (Mod.of_wr j1 rfl) (by obtain ⟨_, _, h, _⟩ := hI7; have := h.lt; omega) (fun k hk hh => by rw [← hFF] at hk; obtain ⟨_, _, h, _⟩ := hI7; have := h.lt; omega)
      have hw10 := (hw7.more hm9).wr j1 (fun g hg hh => by have := (hw7.atB_ge ⟨_, hg, rfl⟩).2; simp only at this; omega)
      have cy10 := hca' w10 hM10
      have s9 := hm9.size
      have s10 := j1.size
      simp (config := {maxSteps := 1000000}) only [↓zvD, zvU, ↓up_apply, ↓hv_apply, ↓upO_some, ↓upO_none, ↓ev_tmp, ↓ev_const, ↓ev_func, ↓ev_global, init, Nat.reduceEqDiff, Nat.reduceAdd, Nat.reduceMul, Nat.reduceSub, ↓reduceIte, Int.reduceEq, Int.reduceNe, Nat.reduceLeDiff, one, Value.cells, Int.reduceLE, Int.reduceLT, Int.reduceToNat, add_mk, reduceCtorEq, List.mem_range'_1, true_and, and_true, and_false, false_and, Nat.reduceLT, Nat.reduceLeDiff, tyF, h93, h6, gk, h9, g9, cy10, Int.toNat_natCast]
      have hl1 : (bytesP (ps.drop k) ++ W).length ≤ 1000000 := by
        have := bytesP_len (ps.drop k)
        rw [List.length_append]
        have h2 : (ps.drop k).length ≤ ps.length := by rw [List.length_drop]; omega
        omega
      refine call_ok Try.call29 (law02_one w10 F q2 _ y rk hI10 hl1) ?_
      rintro _ w11 ⟨rfl, hI11, hb11⟩
      have htk : (InM.mk (bytesP (ps.drop k) ++ W) false).take (manyM y) = (numB x (manyM y), ⟨bytesP (ps.drop (k + 1)) ++ W, false⟩) := by
        rw [hst, List.append_assoc]
        have h1 := take_ok (l := numB x (manyM y) ++ (bytesP (ps.drop (k + 1)) ++ W)) (n := manyM y) (by rw [List.length_append]; omega)
        have h2 : (numB x (manyM y) ++ (bytesP (ps.drop (k + 1)) ++ W)).take (manyM y) = numB x (manyM y) := by rw [List.take_append_of_le_length (by omega), hfull]
        have h3 : (numB x (manyM y) ++ (bytesP (ps.drop (k + 1)) ++ W)).drop (manyM y) = bytesP (ps.drop (k + 1)) ++ W := by rw [List.drop_append_of_le_length (by omega), List.drop_of_length_le (by omega), List.nil_append]
        rw [h2, h3] at h1
        exact h1
      rw [htk] at hI11
      rw [htk]
      have hw11 := hb11.own hw10 (fun z hz hh => by have := hwB _ ⟨z, hz, rfl⟩; omega)
      have hM11 := more_but hM10 hb11 (by omega)
      have s11 := hb11.size
      simp (config := {maxSteps := 1000000}) only [↓zvD, zvU, ↓up_apply, ↓hv_apply, ↓upO_some, ↓upO_none, ↓ev_tmp, ↓ev_const, ↓ev_func, ↓ev_global, init, Nat.reduceEqDiff, Nat.reduceAdd, Nat.reduceMul, Nat.reduceSub, ↓reduceIte, Int.reduceEq, Int.reduceNe, Nat.reduceLeDiff, one, Value.cells, Int.reduceLE, Int.reduceLT, Int.reduceToNat, add_mk, reduceCtorEq, List.mem_range'_1, true_and, and_true, and_false, false_and, Nat.reduceLT, Nat.reduceLeDiff, tyF, h93, h6, ek, decide_true, Bool.not_true]
      refine ⟨⟨?_, k + 1, rfl, by omega, hI11, hw11, by omega, hM11⟩, by simp only [numOf]; omega⟩
      repeat (first | exact Same.hv _ _ _ | refine Same.up (by simp) ?_)
    · obtain rfl : k = ps.length := by omega
      rw [List.drop_of_length_le (Nat.le_refl _), show bytesP [] = [] from rfl, List.nil_append] at hI7
      have hq2' : w5.heap.size ≤ q2 := hq2
      have hlt7 : ∀ z, A6 = some z → 0 < W.length → z.block < q2 := fun z hz _ => by have := hwB _ ⟨z, hz, rfl⟩; omega
      have y3 := readstr_lt (B := q2) Try.underlying22 Try.underlying5 Try.underlying9 hw7.cs c6 hlt7
      have hq7 : q2 < w7.heap.size := by obtain ⟨_, _, h, _⟩ := hI7; exact h.lt
      refine draw_name fun K hK => ?_
      refine draw_seq q2 [false, false, true, true, true, false, false, false, false, false, true, false, false] [[], [], [1], [0, 1, 2], [0, 1, 2, 3], [], [5], [0, 1, 2, 3, 4, 5, 6], [0, 1, 2, 3, 4, 5, 6, 7], [0, 1, 2, 3, 4, 5, 6, 7, 8], [0, 1, 2, 3, 4, 5, 6, 7, 8, 9], [0, 1, 2, 3, 4, 5, 6, 7, 8, 9, 10], [0, 1, 2, 3, 4, 5, 6, 7, 8, 9, 10, 11]] mixed (by kernel_rfl) (by kernel_rfl) ?_
      intro w8 hm8
      try simp (config := {maxSteps := 1000000}) only [↓zvD, zvU, ↓zqD, ↓sq_nil, ↓sq_cons, ↓sq_guard, ↓sq_true, ↓sq_false, ↓up_apply, ↓hv_apply, ↓upO_some, ↓upO_none, ↓ev_tmp, ↓ev_const, ↓ev_func, ↓ev_global, init, Nat.reduceEqDiff, Nat.reduceAdd, Nat.reduceMul, Nat.reduceSub, ↓reduceIte, Int.reduceEq, Int.reduceNe, Nat.reduceLeDiff, one, Value.cells, Int.reduceLE, Int.reduceLT, Int.reduceToNat, add_mk, reduceCtorEq, List.mem_range'_1, true_and, and_true, and_false, false_and, Nat.reduceLT, Nat.reduceLeDiff, tyF, h6]
      refine call_ok Try.call21 (cur_left w8 _ q2 _ (hI7.more hm8)) ?_
      rintro _ w9 ⟨rfl, rfl⟩
      have el : InM.left ⟨W, false⟩ = W.length := rfl
      rw [el]
      try simp (config := {maxSteps := 1000000}) only [↓zvD, zvU, ↓zqD, ↓sq_nil, ↓sq_cons, ↓sq_guard, ↓sq_true, ↓sq_false, ↓up_apply, ↓hv_apply, ↓upO_some, ↓upO_none, ↓ev_tmp, ↓ev_const, ↓ev_func, ↓ev_global, init, Nat.reduceEqDiff, Nat.reduceAdd, Nat.reduceMul, Nat.reduceSub, ↓reduceIte, Int.reduceEq, Int.reduceNe, Nat.reduceLeDiff, one, Value.cells, Int.reduceLE, Int.reduceLT, Int.reduceToNat, add_mk, reduceCtorEq, List.mem_range'_1, true_and, and_true, and_false, false_and, Nat.reduceLT, Nat.reduceLeDiff, tyF, h6]
      refine ⟨hm8.mono (by omega), ?_⟩
      try simp (config := {maxSteps := 1000000}) only [↓zvD, zvU, ↓zqD, ↓sq_nil, ↓sq_cons, ↓sq_guard, ↓sq_true, ↓sq_false, ↓up_apply, ↓hv_apply, ↓upO_some, ↓upO_none, ↓ev_tmp, ↓ev_const, ↓ev_func, ↓ev_global, init, Nat.reduceEqDiff, Nat.reduceAdd, Nat.reduceMul, Nat.reduceSub, ↓reduceIte, Int.reduceEq, Int.reduceNe, Nat.reduceLeDiff, one, Value.cells, Int.reduceLE, Int.reduceLT, Int.reduceToNat, add_mk, reduceCtorEq, List.mem_range'_1, true_and, and_true, and_false, false_and, Nat.reduceLT, Nat.reduceLeDiff, tyF, h6]
      refine call_ok Try.call20 (cur_raw w9 _ q2 _ (W.length : Int) (hI7.more hm8) (by show W.length ≤ _; omega)) ?_
      rintro _ w10 ⟨A10, c10, rfl, ho10, hI10, hb10⟩
      have t10 : (InM.mk W false).take (W.length : Int) = (W, ⟨[], false⟩) := by
        rw [take_ok (by omega), List.take_of_length_le (Nat.le_refl _), List.drop_of_length_le (Nat.le_refl _)]
      rw [t10] at ho10 hI10
      rw [t10]
      have hB10 : Below q2 w7 w10 := (hm8.mono (by omega)).trans (hb10.below (Nat.le_refl _) (by have := hm8.size; omega))
      try simp (config := {maxSteps := 1000000}) only [↓zvD, zvU, ↓zqD, ↓sq_nil, ↓sq_cons, ↓sq_guard, ↓sq_true, ↓sq_false, ↓up_apply, ↓hv_apply, ↓upO_some, ↓upO_none, ↓ev_tmp, ↓ev_const, ↓ev_func, ↓ev_global, init, Nat.reduceEqDiff, Nat.reduceAdd, Nat.reduceMul, Nat.reduceSub, ↓reduceIte, Int.reduceEq, Int.reduceNe, Nat.reduceLeDiff, one, Value.cells, Int.reduceLE, Int.reduceLT, Int.reduceToNat, add_mk, reduceCtorEq, List.mem_range'_1, true_and, and_true, and_false, false_and, Nat.reduceLT, Nat.reduceLeDiff, tyF, h6]
      refine ⟨hB10, ?_⟩
      try simp (config := {maxSteps := 1000000}) only [↓zvD, zvU, ↓zqD, ↓sq_nil, ↓sq_cons, ↓sq_guard, ↓sq_true, ↓sq_false, ↓up_apply, ↓hv_apply, ↓upO_some, ↓upO_none, ↓ev_tmp, ↓ev_const, ↓ev_func, ↓ev_global, init, Nat.reduceEqDiff, Nat.reduceAdd, Nat.reduceMul, Nat.reduceSub, ↓reduceIte, Int.reduceEq, Int.reduceNe, Nat.reduceLeDiff, one, Value.cells, Int.reduceLE, Int.reduceLT, Int.reduceToNat, add_mk, reduceCtorEq, List.mem_range'_1, true_and, and_true, and_false, false_and, Nat.reduceLT, Nat.reduceLeDiff, tyF, h6]
      refine conv_str Try.underlying22 Try.underlying5 Try.underlying9 ho10.cs ?_
      try simp (config := {maxSteps := 1000000}) only [↓zvD, zvU, ↓zqD, ↓sq_nil, ↓sq_cons, ↓sq_guard, ↓sq_true, ↓sq_false, ↓up_apply, ↓hv_apply, ↓upO_some, ↓upO_none, ↓ev_tmp, ↓ev_const, ↓ev_func, ↓ev_global, init, Nat.reduceEqDiff, Nat.reduceAdd, Nat.reduceMul, Nat.reduceSub, ↓reduceIte, Int.reduceEq, Int.reduceNe, Nat.reduceLeDiff, one, Value.cells, Int.reduceLE, Int.reduceLT, Int.reduceToNat, add_mk, reduceCtorEq, List.mem_range'_1, true_and, and_true, and_false, false_and, Nat.reduceLT, Nat.reduceLeDiff, tyF, h6]
      refine ⟨hB10, ?_⟩
      try simp (config := {maxSteps := 1000000}) only [↓zvD, zvU, ↓zqD, ↓sq_nil, ↓sq_cons, ↓sq_guard, ↓sq_true, ↓sq_false, ↓up_apply, ↓hv_apply, ↓upO_some, ↓upO_none, ↓ev_tmp, ↓ev_const, ↓ev_func, ↓ev_global, init, Nat.reduceEqDiff, Nat.reduceAdd, Nat.reduceMul, Nat.reduceSub, ↓reduceIte, Int.reduceEq, Int.reduceNe, Nat.reduceLeDiff, one, Value.cells, Int.reduceLE, Int.reduceLT, Int.reduceToNat, add_mk, reduceCtorEq, List.mem_range'_1, true_and, and_true, and_false, false_and, Nat.reduceLT, Nat.reduceLeDiff, tyF, h6, y3, beq_self_eq_true]
      refine call_ok Try.call30 (cur_done w10 _ q2 _ hI10) ?_
      rintro _ w11 ⟨rfl, rfl⟩
      have ed : InM.done ⟨[], false⟩ = true := rfl
      rw [ed]
      try simp (config := {maxSteps := 1000000}) only [↓zvD, zvU, ↓zqD, ↓sq_nil, ↓sq_cons, ↓sq_guard, ↓sq_true, ↓sq_false, ↓up_apply, ↓hv_apply, ↓upO_some, ↓upO_none, ↓ev_tmp, ↓ev_const, ↓ev_func, ↓ev_global, init, Nat.reduceEqDiff, Nat.reduceAdd, Nat.reduceMul, Nat.reduceSub, ↓reduceIte, Int.reduceEq, Int.reduceNe, Nat.reduceLeDiff, one, Value.cells, Int.reduceLE, Int.reduceLT, Int.reduceToNat, add_mk, reduceCtorEq, List.mem_range'_1, true_and, and_true, and_false, false_and, Nat.reduceLT, Nat.reduceLeDiff, tyF, h6]
      refine ⟨hB10, ?_⟩
      try simp (config := {maxSteps := 1000000}) only [↓zvD, zvU, ↓zqD, ↓sq_nil, ↓sq_cons, ↓sq_guard, ↓sq_true, ↓sq_false, ↓up_apply, ↓hv_apply, ↓upO_some, ↓upO_none, ↓ev_tmp, ↓ev_const, ↓ev_func, ↓ev_global, init, Nat.reduceEqDiff, Nat.reduceAdd, Nat.reduceMul, Nat.reduceSub, ↓reduceIte, Int.reduceEq, Int.reduceNe, Nat.reduceLeDiff, one, Value.cells, Int.reduceLE, Int.reduceLT, Int.reduceToNat, add_mk, reduceCtorEq, List.mem_range'_1, true_and, and_true, and_false, false_and, Nat.reduceLT, Nat.reduceLeDiff, tyF, h6]
      refine hK _ _ ?_
      try simp (config := {maxSteps := 1000000}) only [↓zvD, zvU, ↓up_apply, ↓hv_apply, ↓upO_some, ↓upO_none, ↓ev_tmp, ↓ev_const, ↓ev_func, ↓ev_global, init, Nat.reduceEqDiff, Nat.reduceAdd, Nat.reduceMul, Nat.reduceSub, ↓reduceIte, Int.reduceEq, Int.reduceNe, Nat.reduceLeDiff, one, Value.cells, Int.reduceLE, Int.reduceLT, Int.reduceToNat, add_mk, reduceCtorEq, List.mem_range'_1, true_and, and_true, and_false, false_and, Nat.reduceLT, Nat.reduceLeDiff, tyF]
      exact Below.trans hM7 (Below.mono hB10 (by have := hM5.size; omega))
end Go.Proofs.Ythpoabnijhfhiaa
