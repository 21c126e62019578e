/-
  Layer 21: a table that is full (TableFull).
-/
import Derived.Test.YtimhcjakpdebjaaLaw21
namespace Go.Proofs.Ytimhcjakpdebjaa
open Go Go.RowKit Go.Proofs.RV
set_option linter.unusedSimpArgs false
set_option linter.unusedVariables false
set_option maxRecDepth 10000
set_option maxHeartbeats 4000000
section
variable {α : Type}
theorem get_mem {L : List (PrefM × α)} (h : SortedM L) {p : PrefM} {v : α} : getL L p = some v ↔ (p, v) ∈ L := by
  constructor
  · intro hg
    rcases Classical.em (p ∈ keysM L) with h1 | h1
    · obtain ⟨u, hu⟩ := mem_keys.1 h1
      rw [get_some h hu] at hg
      rw [← Option.some.inj hg]
      exact hu
    · rw [get_none h1] at hg
      cases hg
  · exact get_some h
theorem key_get {L : List (PrefM × α)} (h : SortedM L) {p : PrefM} : p ∈ keysM L ↔ getL L p ≠ none := by
  constructor
  · intro h1
    obtain ⟨u, hu⟩ := mem_keys.1 h1
    rw [get_some h hu]
    exact fun h => by cases h
  · intro h1
    cases hg : getL L p with
    | none => exact absurd hg h1
    | some v => exact mem_keys.2 ⟨v, (get_mem h).1 hg⟩
theorem get_put {L : List (PrefM × α)} (h : SortedM L) (p q : PrefM) (v : α) : getL (putL L p v) q = if q = p then some v else getL L q := by
  by_cases e : q = p
  · rw [if_pos e, e]
    exact get_some (h.put p v) (mem_putL.2 (.inl ⟨rfl, rfl⟩))
  · rw [if_neg e]
    cases hg : getL L q with
    | none =>
      refine get_none fun hk => ?_
      obtain ⟨u, hu⟩ := mem_keys.1 hk
      rcases mem_putL.1 hu with ⟨h1, _⟩ | ⟨_, h1⟩
      · exact e h1
      · rw [get_some h h1] at hg; cases hg
    | some u => exact get_some (h.put p v) (mem_putL.2 (.inr ⟨e, (get_mem h).1 hg⟩))
theorem get_del {L : List (PrefM × α)} (h : SortedM L) (p q : PrefM) : getL (delL L p) q = if q = p then none else getL L q := by
  by_cases e : q = p
  · rw [if_pos e, e]
    refine get_none fun hk => ?_
    obtain ⟨u, hu⟩ := mem_keys.1 hk
    exact (mem_delL.1 hu).1 rfl
  · rw [if_neg e]
    cases hg : getL L q with
    | none =>
      refine get_none fun hk => ?_
      obtain ⟨u, hu⟩ := mem_keys.1 hk
      rw [get_some h (mem_delL.1 hu).2] at hg; cases hg
    | some u => exact get_some (h.del p) (mem_delL.2 ⟨e, (get_mem h).1 hg⟩)
end
/-- the k-th prefix -/
def pk (k : Nat) : PrefM := ⟨false, [UInt8.ofNat k, 1, 0, 0, 0, 0, 0]⟩
theorem pk_len (k : Nat) : (pk k).addr.length = 7 := rfl
theorem pk_inj {i j : Nat} (hi : i < 256) (hj : j < 256) (h : pk i = pk j) : i = j := by
  unfold pk at h
  simp only [PrefM.mk.injEq, List.cons.injEq, true_and, and_true] at h
  have := congrArg UInt8.toNat h
  simp at this
  omega
def other6 : PrefM := ⟨true, noBytes 7⟩
theorem pk_other (k : Nat) : pk k ≠ other6 := fun h => by have := congrArg PrefM.v6 h; cases this
theorem zerA7 : zer Try.prog 22 = some (.agg ((noBytes 7).map byteV).toArray) := by rw [zer22]; rfl
theorem pk_arr (k : Nat) (w0 : World) (K : Value → Prop) : pureP Try.prog (Instr.build 22 #[(0, .int .u8 k), (1, .int .u8 1)]) K = K (.agg #[.int .u8 (k : Int), .int .u8 1, .int .u8 0, .int .u8 0, .int .u8 0, .int .u8 0, .int .u8 0]) :=
  build_arrE (out := [.int .u8 k, .int .u8 1, .int .u8 0, .int .u8 0, .int .u8 0, .int .u8 0, .int .u8 0]) Try.underlying22 cells5 (by decide) zerA7 rfl w0 K
theorem pk_cells {k : Nat} (hk : k < 256) : (pk k).cells = [.bool false, .int .u8 k, .int .u8 1, .int .u8 0, .int .u8 0, .int .u8 0, .int .u8 0, .int .u8 0] := by
  simp [pk, PrefM.cells, byteV]
  omega
theorem pk_build {k : Nat} (hk : k < 256) (w0 : World) (K : Value → Prop) : pureP Try.prog (Instr.build 24 #[(1, .agg #[.int .u8 (k : Int), .int .u8 1, .int .u8 0, .int .u8 0, .int .u8 0, .int .u8 0, .int .u8 0])]) K = K (.agg (pk k).cells.toArray) := by
  rw [pk_cells hk]
  exact build_of [.bool false, .int .u8 k, .int .u8 1, .int .u8 0, .int .u8 0, .int .u8 0, .int .u8 0, .int .u8 0] (by kernel_rfl) zerPref rfl w0 K
theorem other_build (w0 : World) (K : Value → Prop) : pureP Try.prog (Instr.build 24 #[(0, .bool true)]) K = K (.agg other6.cells.toArray) :=
  build_of other6.cells (by kernel_rfl) zerPref rfl w0 K
def FullJ (n : Nat) (w : World) (b t : Nat) (v28 : Value) (w' : World) : Prop :=
  ∃ (k : Nat) (L : List EntM), v28 = .int .i64 k ∧ k ≤ n ∧ TabA_int w' b t L n ∧ L.length = k ∧ (∀ j, j < k → getL L (pk j) = some [.int .i64 j]) ∧ (∀ q, (∀ j, j < k → q ≠ pk j) → getL L q = none) ∧ More w w'
def CntJ2 (n : Nat) (w : World) (v83 : Value) (w' : World) : Prop := ∃ k : Nat, v83 = .int .i64 k ∧ k ≤ n ∧ More w w'
theorem table_full (w : World) (r g : Nat) (hr : r < 256) (hg : g < 256) : Ret Try.prog 4 #[.int .u8 r, .int .u8 g] w fun v w' => v = .bool true ∧ More w w' := by
  refine ret_of Try.func4 rfl (by kernel_rfl) (Nat.le_of_ble_eq_true (by kernel_rfl)) ?_
  simp (config := {maxSteps := 1000000}) only [↓zvN, zvU, ↓up_apply, ↓hv_apply, ↓upO_some, ↓upO_none, ↓ev_tmp, ↓ev_const, ↓ev_func, ↓ev_global, init, Nat.reduceEqDiff, Nat.reduceAdd, Nat.reduceMul, Nat.reduceSub, ↓reduceIte, Int.reduceEq, Int.reduceNe, Nat.reduceLeDiff, one, Value.cells, Int.reduceLE, Int.reduceLT, Int.reduceToNat, add_mk, reduceCtorEq, List.mem_range'_1, true_and, and_true, and_false, false_and, Nat.reduceLT, Nat.reduceLeDiff, tyF]
  refine call_ok Try.call10 (awake21 _) ?_
  rintro _ w1 ⟨rfl, hm1⟩
  obtain ⟨n, hn⟩ : ∃ n, n = 1 + r % 64 := ⟨_, rfl⟩
  have er : IntKind.i64.wrap (r : Int) = r := w64 (by omega) (by omega)
  have er2 : Int.tmod (r : Int) 64 = ((r % 64 : Nat) : Int) := by rw [Int.tmod_eq_emod_of_nonneg (by omega)]; omega
  have er3 : IntKind.i64.wrap ((r % 64 : Nat) : Int) = ((r % 64 : Nat) : Int) := w64 (by omega) (by omega)
  have er4 : IntKind.i64.wrap (1 + ((r % 64 : Nat) : Int)) = (n : Int) := by rw [show 1 + ((r % 64 : Nat) : Int) = (n : Int) by omega]; exact w64 (by omega) (by omega)
  simp (config := {maxSteps := 1000000}) only [↓zvN, zvU, ↓up_apply, ↓hv_apply, ↓upO_some, ↓upO_none, ↓ev_tmp, ↓ev_const, ↓ev_func, ↓ev_global, init, Nat.reduceEqDiff, Nat.reduceAdd, Nat.reduceMul, Nat.reduceSub, ↓reduceIte, Int.reduceEq, Int.reduceNe, Nat.reduceLeDiff, one, Value.cells, Int.reduceLE, Int.reduceLT, Int.reduceToNat, add_mk, reduceCtorEq, List.mem_range'_1, true_and, and_true, and_false, false_and, Nat.reduceLT, Nat.reduceLeDiff, tyF, er, er2, er3, er4]
  refine call_ok Try.call13 (tab_new_int w1 n (by omega) (by omega)) ?_
  rintro _ w2 ⟨b, t, rfl, hb, ht, hT, hm2⟩
  have hm12 := hm1.trans hm2
  have hsz := hm1.size
  simp (config := {maxSteps := 1000000}) only [↓zvN, zvU, ↓up_apply, ↓hv_apply, ↓upO_some, ↓upO_none, ↓ev_tmp, ↓ev_const, ↓ev_func, ↓ev_global, init, Nat.reduceEqDiff, Nat.reduceAdd, Nat.reduceMul, Nat.reduceSub, ↓reduceIte, Int.reduceEq, Int.reduceNe, Nat.reduceLeDiff, one, Value.cells, Int.reduceLE, Int.reduceLT, Int.reduceToNat, add_mk, reduceCtorEq, List.mem_range'_1, true_and, and_true, and_false, false_and, Nat.reduceLT, Nat.reduceLeDiff, tyF]
  refine loop_p (8 :: List.range' 28 12) (fun e w' => FullJ n w b t (e 28) w') (fun e _ => n - (numOf (e 28)).toNat) ?_ ?_
  · exact ⟨0, [], by simp only [hv_apply, up_apply, upO_some, upO_none, init, List.mem_cons, List.mem_range'_1, true_and, and_true, and_false, false_and, Nat.reduceLT, Nat.reduceLeDiff, Nat.reduceAdd, true_or, or_true, if_true, if_false, ↓reduceIte, Nat.reduceEqDiff, false_or, or_false, List.not_mem_nil, List.getElem?_cons_zero, List.getElem?_cons_succ, Option.getD_some] <;> rfl, by omega, hT, rfl, fun j hj => by omega, fun q _ => rfl, hm12⟩
  rintro v w3 ⟨k, L, h28, hk, hTk, hLl, hLs, hLn, hm3⟩
  simp only [hv_apply, up_apply, upO_some, upO_none, init, List.mem_cons, List.mem_range'_1, true_and, and_true, and_false, false_and, Nat.reduceLT, Nat.reduceLeDiff, Nat.reduceAdd, true_or, or_true, if_true, if_false, ↓reduceIte, Nat.reduceEqDiff, false_or, or_false, List.not_mem_nil, List.getElem?_cons_zero, List.getElem?_cons_succ, Option.getD_some] at h28
  have ek : IntKind.i64.wrap ((k : Int) + 1) = ((k + 1 : Nat) : Int) := w64 (by omega) (by omega)
  have eu : IntKind.u8.wrap (k : Int) = (k : Int) := wu8 (by omega) (by omega)
  simp (config := {maxSteps := 1000000}) only [↓zvN, zvU, ↓up_apply, ↓hv_apply, ↓upO_some, ↓upO_none, ↓ev_tmp, ↓ev_const, ↓ev_func, ↓ev_global, init, Nat.reduceEqDiff, Nat.reduceAdd, Nat.reduceMul, Nat.reduceSub, ↓reduceIte, Int.reduceEq, Int.reduceNe, Nat.reduceLeDiff, one, Value.cells, Int.reduceLE, Int.reduceLT, Int.reduceToNat, add_mk, reduceCtorEq, List.mem_range'_1, true_and, and_true, and_false, false_and, Nat.reduceLT, Nat.reduceLeDiff, tyF, h28]
  refine ⟨fun h9 => ?_, fun h9 => ?_⟩
  · have b1 := pk_arr k w3
    have b2 := pk_build (k := k) (by omega) w3
    simp (config := {maxSteps := 1000000}) only [↓zvN, zvU, ↓up_apply, ↓hv_apply, ↓upO_some, ↓upO_none, ↓ev_tmp, ↓ev_const, ↓ev_func, ↓ev_global, init, Nat.reduceEqDiff, Nat.reduceAdd, Nat.reduceMul, Nat.reduceSub, ↓reduceIte, Int.reduceEq, Int.reduceNe, Nat.reduceLeDiff, one, Value.cells, Int.reduceLE, Int.reduceLT, Int.reduceToNat, add_mk, reduceCtorEq, List.mem_range'_1, true_and, and_true, and_false, false_and, Nat.reduceLT, Nat.reduceLeDiff, tyF, h28, eu, b1, b2]
    refine call_ok Try.call14 (tab_put_int w3 b t L n (pk k) k (pk_len k) hTk (by omega)) ?_
    rintro _ w4 ⟨rfl, hT4, hm4⟩
    have hkn : getL L (pk k) = none := hLn _ fun j hj e => by have := pk_inj (by omega) (by omega) e; omega
    have hkk : pk k ∉ keysM L := fun h => (key_get hTk.sorted).1 h hkn
    have hok : putOk L n (pk k) = true := by unfold putOk; simp [hLl]; right; omega
    have hpa : putA L n (pk k) [.int .i64 k] = putL L (pk k) [.int .i64 k] := by unfold putA; rw [if_pos hok]
    rw [hpa] at hT4
    simp (config := {maxSteps := 1000000}) only [↓zvN, zvU, ↓up_apply, ↓hv_apply, ↓upO_some, ↓upO_none, ↓ev_tmp, ↓ev_const, ↓ev_func, ↓ev_global, init, Nat.reduceEqDiff, Nat.reduceAdd, Nat.reduceMul, Nat.reduceSub, ↓reduceIte, Int.reduceEq, Int.reduceNe, Nat.reduceLeDiff, one, Value.cells, Int.reduceLE, Int.reduceLT, Int.reduceToNat, add_mk, reduceCtorEq, List.mem_range'_1, true_and, and_true, and_false, false_and, Nat.reduceLT, Nat.reduceLeDiff, tyF, hok, h28, ek]
    refine ⟨⟨?_, k + 1, _, rfl, by omega, hT4, by rw [put_len, if_neg hkk, hLl], ?_, ?_, two_more hm3 hm4 (by omega) (by omega)⟩, by simp only [numOf]; omega⟩
    · repeat (first | exact Same.hv _ _ _ | refine Same.up (by simp) ?_)
    · intro j hj
      rw [get_put hTk.sorted]
      by_cases e : j = k
      · rw [e, if_pos rfl]
      · rw [if_neg (fun h => e (pk_inj (by omega) (by omega) h))]
        exact hLs j (by omega)
    · intro q hq
      rw [get_put hTk.sorted, if_neg (hq k (by omega))]
      exact hLn q fun j hj => hq j (by omega)
  obtain rfl : k = n := by omega
  clear ek eu
  obtain ⟨x, hx⟩ : ∃ x, x = g % k := ⟨_, rfl⟩
  have hxk : x < k := by rw [hx]; exact Nat.mod_lt _ (by omega)
  have eg : IntKind.i64.wrap (g : Int) = g := w64 (by omega) (by omega)
  have eg2 : Int.tmod (g : Int) (k : Int) = (x : Int) := by rw [Int.tmod_eq_emod_of_nonneg (by omega), hx]; omega
  have eg3 : IntKind.i64.wrap (x : Int) = x := w64 (by omega) (by omega)
  have k0 : ¬ (k : Int) = 0 := by omega
  have ob := other_build w3
  have k1 : ¬ k = 0 := by omega
  simp (config := {maxSteps := 1000000}) only [↓zvN, zvU, ↓up_apply, ↓hv_apply, ↓upO_some, ↓upO_none, ↓ev_tmp, ↓ev_const, ↓ev_func, ↓ev_global, init, Nat.reduceEqDiff, Nat.reduceAdd, Nat.reduceMul, Nat.reduceSub, ↓reduceIte, Int.reduceEq, Int.reduceNe, Nat.reduceLeDiff, one, Value.cells, Int.reduceLE, Int.reduceLT, Int.reduceToNat, add_mk, reduceCtorEq, List.mem_range'_1, true_and, and_true, and_false, false_and, Nat.reduceLT, Nat.reduceLeDiff, tyF, eg, eg2, eg3, k0, k1, ob, zerPref]
  have hm4 := more_alloc w3 (.cells prefZ.cells.toArray 24)
  have hb4 := Blk.new w3 24 prefZ.cells.toArray
  obtain ⟨w4, hw4⟩ : ∃ w4, w3.alloc (.cells prefZ.cells.toArray 24) = w4 := ⟨_, rfl⟩
  rw [hw4] at hm4 hb4 ⊢
  clear hw4
  refine st_all hb4 rfl rfl (by simpa using PrefM.one other6) fun w5 j1 j2 => ?_
  rw [s2_undef]
  rw [List.toList_toArray] at j2
  have hm5 : More w3 w5 := more_but hm4 (But.of_wr j1) (Nat.le_refl _)
  obtain ⟨ob, hob⟩ : ∃ q, w3.heap.size = q := ⟨_, rfl⟩
  rw [hob] at j2 ⊢
  have hm35 := hm3.trans hm5
  have hT5 := hTk.more hm5
  have hbt := hTk.lt
  have hno : ¬ two b t ob := by rintro (h | h) <;> omega
  have v5 := j2.all_eq 8 rfl
  simp (config := {maxSteps := 1000000}) only [↓zvN, zvU, ↓up_apply, ↓hv_apply, ↓upO_some, ↓upO_none, ↓ev_tmp, ↓ev_const, ↓ev_func, ↓ev_global, init, Nat.reduceEqDiff, Nat.reduceAdd, Nat.reduceMul, Nat.reduceSub, ↓reduceIte, Int.reduceEq, Int.reduceNe, Nat.reduceLeDiff, one, Value.cells, Int.reduceLE, Int.reduceLT, Int.reduceToNat, add_mk, reduceCtorEq, List.mem_range'_1, true_and, and_true, and_false, false_and, Nat.reduceLT, Nat.reduceLeDiff, tyF, v5]
  -- one more isn't taken
  have hon : getL L other6 = none := hLn _ fun j _ e => pk_other j e.symm
  have hok : other6 ∉ keysM L := fun h => (key_get hTk.sorted).1 h hon
  refine call_ok Try.call14 (tab_put_int w5 b t L k other6 1 rfl hT5 (by omega)) ?_
  rintro _ w6 ⟨rfl, hT6, hm6⟩
  have hpo : putOk L k other6 = false := by unfold putOk; simp [hok, hLl]
  have hpa : putA L k other6 [.int .i64 1] = L := by unfold putA; rw [if_neg (by rw [hpo]; exact fun h => by cases h)]
  rw [hpa] at hT6
  have ex8 : IntKind.u8.wrap (x : Int) = (x : Int) := wu8 (by omega) (by omega)
  have b1 := pk_arr x w6
  have b2 := pk_build (k := x) (by omega) w6
  simp (config := {maxSteps := 1000000}) only [↓zvN, zvU, ↓up_apply, ↓hv_apply, ↓upO_some, ↓upO_none, ↓ev_tmp, ↓ev_const, ↓ev_func, ↓ev_global, init, Nat.reduceEqDiff, Nat.reduceAdd, Nat.reduceMul, Nat.reduceSub, ↓reduceIte, Int.reduceEq, Int.reduceNe, Nat.reduceLeDiff, one, Value.cells, Int.reduceLE, Int.reduceLT, Int.reduceToNat, add_mk, reduceCtorEq, List.mem_range'_1, true_and, and_true, and_false, false_and, Nat.reduceLT, Nat.reduceLeDiff, tyF, hpo, eg, eg2, eg3, ex8, b1, b2]
  -- who is there can be changed
  have hxs := hLs x hxk
  have hxk2 : pk x ∈ keysM L := (key_get hTk.sorted).2 (by rw [hxs]; exact fun h => by cases h)
  refine call_ok Try.call14 (tab_put_int w6 b t L k (pk x) 500 rfl hT6 (by omega)) ?_
  rintro _ w7 ⟨rfl, hT7, hm7⟩
  have hpo2 : putOk L k (pk x) = true := by unfold putOk; simp [hxk2]
  have hpa2 : putA L k (pk x) [.int .i64 500] = putL L (pk x) [.int .i64 500] := by unfold putA; rw [if_pos hpo2]
  rw [hpa2] at hT7
  have hs7 := hT7.sorted
  have hl7 : (putL L (pk x) [.int .i64 500]).length = k := by rw [put_len, if_pos hxk2, hLl]
  have hg7 := fun q => get_put hTk.sorted (pk x) q [.int .i64 500]
  obtain ⟨L7, hL7⟩ : ∃ L7, L7 = putL L (pk x) [.int .i64 500] := ⟨_, rfl⟩
  rw [← hL7] at hT7 hs7 hl7 hg7
  clear hL7
  simp (config := {maxSteps := 1000000}) only [↓zvN, zvU, ↓up_apply, ↓hv_apply, ↓upO_some, ↓upO_none, ↓ev_tmp, ↓ev_const, ↓ev_func, ↓ev_global, init, Nat.reduceEqDiff, Nat.reduceAdd, Nat.reduceMul, Nat.reduceSub, ↓reduceIte, Int.reduceEq, Int.reduceNe, Nat.reduceLeDiff, one, Value.cells, Int.reduceLE, Int.reduceLT, Int.reduceToNat, add_mk, reduceCtorEq, List.mem_range'_1, true_and, and_true, and_false, false_and, Nat.reduceLT, Nat.reduceLeDiff, tyF, hpo2]
  refine call_ok Try.call15 (tab_len_int w7 b t _ k hT7) ?_
  rintro _ w8 ⟨rfl, rfl⟩
  rw [hl7]
  have b1 := pk_arr x w8
  have b2 := pk_build (k := x) (by omega) w8
  simp (config := {maxSteps := 1000000}) only [↓zvN, zvU, ↓up_apply, ↓hv_apply, ↓upO_some, ↓upO_none, ↓ev_tmp, ↓ev_const, ↓ev_func, ↓ev_global, init, Nat.reduceEqDiff, Nat.reduceAdd, Nat.reduceMul, Nat.reduceSub, ↓reduceIte, Int.reduceEq, Int.reduceNe, Nat.reduceLeDiff, one, Value.cells, Int.reduceLE, Int.reduceLT, Int.reduceToNat, add_mk, reduceCtorEq, List.mem_range'_1, true_and, and_true, and_false, false_and, Nat.reduceLT, Nat.reduceLeDiff, tyF, eg, eg2, eg3, ex8, b1, b2]
  -- it goes
  refine call_ok Try.call16 (tab_del_int w8 b t L7 k (pk x) rfl hT7 (by omega)) ?_
  rintro _ w9 ⟨rfl, hT9, hm9⟩
  have hxk7 : pk x ∈ keysM L7 := (key_get hs7).2 (by rw [hg7, if_pos rfl]; exact fun h => by cases h)
  have hl9 : (delL L7 (pk x)).length = k - 1 := by rw [del_len hs7, if_pos hxk7, hl7]
  have hg9 := fun q => get_del hs7 (pk x) q
  obtain ⟨L9, hL9⟩ : ∃ L9, L9 = delL L7 (pk x) := ⟨_, rfl⟩
  rw [← hL9] at hT9 hl9 hg9
  clear hL9
  have hs9 := hT9.sorted
  have hdt : decide (pk x ∈ keysM L7) = true := decide_eq_true hxk7
  have m69 : Mod (two b t) w5 w9 := (hm6.trans hm7).trans hm9
  have v9 := (m69.blk j2 hno).all_eq 8 rfl
  simp (config := {maxSteps := 1000000}) only [↓zvN, zvU, ↓up_apply, ↓hv_apply, ↓upO_some, ↓upO_none, ↓ev_tmp, ↓ev_const, ↓ev_func, ↓ev_global, init, Nat.reduceEqDiff, Nat.reduceAdd, Nat.reduceMul, Nat.reduceSub, ↓reduceIte, Int.reduceEq, Int.reduceNe, Nat.reduceLeDiff, one, Value.cells, Int.reduceLE, Int.reduceLT, Int.reduceToNat, add_mk, reduceCtorEq, List.mem_range'_1, true_and, and_true, and_false, false_and, Nat.reduceLT, Nat.reduceLeDiff, tyF, hdt, v9]
  have hon9 : getL L9 other6 = none := by rw [hg9, if_neg (fun h => pk_other x h.symm), hg7, if_neg (fun h => pk_other x h.symm)]; exact hon
  have hok9 : other6 ∉ keysM L9 := fun h => (key_get hs9).1 h hon9
  refine call_ok Try.call14 (tab_put_int w9 b t L9 k other6 2 rfl hT9 (by omega)) ?_
  rintro _ w10 ⟨rfl, hT10, hm10⟩
  have hpo9 : putOk L9 k other6 = true := by unfold putOk; simp [hl9]; right; omega
  have hpa9 : putA L9 k other6 [.int .i64 2] = putL L9 other6 [.int .i64 2] := by unfold putA; rw [if_pos hpo9]
  rw [hpa9] at hT10
  have hl10 : (putL L9 other6 [.int .i64 2]).length = k := by rw [put_len, if_neg hok9, hl9]; omega
  have hg10 := fun q => get_put hs9 other6 q [.int .i64 2]
  obtain ⟨L10, hL10⟩ : ∃ L10, L10 = putL L9 other6 [.int .i64 2] := ⟨_, rfl⟩
  rw [← hL10] at hT10 hl10 hg10
  clear hL10
  simp (config := {maxSteps := 1000000}) only [↓zvN, zvU, ↓up_apply, ↓hv_apply, ↓upO_some, ↓upO_none, ↓ev_tmp, ↓ev_const, ↓ev_func, ↓ev_global, init, Nat.reduceEqDiff, Nat.reduceAdd, Nat.reduceMul, Nat.reduceSub, ↓reduceIte, Int.reduceEq, Int.reduceNe, Nat.reduceLeDiff, one, Value.cells, Int.reduceLE, Int.reduceLT, Int.reduceToNat, add_mk, reduceCtorEq, List.mem_range'_1, true_and, and_true, and_false, false_and, Nat.reduceLT, Nat.reduceLeDiff, tyF, hpo9]
  refine call_ok Try.call15 (tab_len_int w10 b t _ k hT10) ?_
  rintro _ w11 ⟨rfl, rfl⟩
  rw [hl10]
  simp (config := {maxSteps := 1000000}) only [↓zvN, zvU, ↓up_apply, ↓hv_apply, ↓upO_some, ↓upO_none, ↓ev_tmp, ↓ev_const, ↓ev_func, ↓ev_global, init, Nat.reduceEqDiff, Nat.reduceAdd, Nat.reduceMul, Nat.reduceSub, ↓reduceIte, Int.reduceEq, Int.reduceNe, Nat.reduceLeDiff, one, Value.cells, Int.reduceLE, Int.reduceLT, Int.reduceToNat, add_mk, reduceCtorEq, List.mem_range'_1, true_and, and_true, and_false, false_and, Nat.reduceLT, Nat.reduceLeDiff, tyF]
  have m511 : Mod (two b t) w5 w11 := m69.trans hm10
  have hM : More w w11 := two_more hm35 m511 (by omega) (by omega)
  have jo := m511.blk j2 hno
  have hgk : ∀ j, j < k → getL L10 (pk j) = if j = x then none else some [.int .i64 j] := by
    intro j hj
    rw [hg10, if_neg (pk_other j), hg9]
    by_cases e : j = x
    · rw [e, if_pos rfl, if_pos rfl]
    · rw [if_neg (fun h => e (pk_inj (by omega) (by omega) h)), hg7, if_neg (fun h => e (pk_inj (by omega) (by omega) h)), if_neg e]
      exact hLs j hj
  have hgo : getL L10 other6 = some [.int .i64 2] := by rw [hg10, if_pos rfl]
  clear hg10 hg9 hg7 hLs hLn hT5 hT6 hT7 hT9 v5 v9 b1 b2
  refine loop_p (11 :: 12 :: 13 :: List.range' 83 34) (fun e w' => CntJ2 k w11 (e 83) w') (fun e _ => k - (numOf (e 83)).toNat) ?_ ?_
  · exact ⟨0, by simp only [hv_apply, up_apply, upO_some, upO_none, init, List.mem_cons, List.mem_range'_1, true_and, and_true, and_false, false_and, Nat.reduceLT, Nat.reduceLeDiff, Nat.reduceAdd, true_or, or_true, if_true, if_false, ↓reduceIte, Nat.reduceEqDiff, false_or, or_false, List.not_mem_nil, List.getElem?_cons_zero, List.getElem?_cons_succ, Option.getD_some] <;> rfl, by omega, More.refl _⟩
  rintro v2 w12 ⟨i, h83, hi, hm12'⟩
  simp only [hv_apply, up_apply, upO_some, upO_none, init, List.mem_cons, List.mem_range'_1, true_and, and_true, and_false, false_and, Nat.reduceLT, Nat.reduceLeDiff, Nat.reduceAdd, true_or, or_true, if_true, if_false, ↓reduceIte, Nat.reduceEqDiff, false_or, or_false, List.not_mem_nil, List.getElem?_cons_zero, List.getElem?_cons_succ, Option.getD_some] at h83
  have ei : IntKind.i64.wrap ((i : Int) + 1) = ((i + 1 : Nat) : Int) := w64 (by omega) (by omega)
  have eu : IntKind.u8.wrap (i : Int) = (i : Int) := wu8 (by omega) (by omega)
  simp (config := {maxSteps := 1000000}) only [↓zvN, zvU, ↓up_apply, ↓hv_apply, ↓upO_some, ↓upO_none, ↓ev_tmp, ↓ev_const, ↓ev_func, ↓ev_global, init, Nat.reduceEqDiff, Nat.reduceAdd, Nat.reduceMul, Nat.reduceSub, ↓reduceIte, Int.reduceEq, Int.reduceNe, Nat.reduceLeDiff, one, Value.cells, Int.reduceLE, Int.reduceLT, Int.reduceToNat, add_mk, reduceCtorEq, List.mem_range'_1, true_and, and_true, and_false, false_and, Nat.reduceLT, Nat.reduceLeDiff, tyF, h83]
  have hT12 := hT10.more hm12'
  refine ⟨fun h9 => ?_, fun h9 => ?_⟩
  rotate_left
  · have v12 := (jo.more hm12').all_eq 8 rfl
    simp (config := {maxSteps := 1000000}) only [↓zvN, zvU, ↓up_apply, ↓hv_apply, ↓upO_some, ↓upO_none, ↓ev_tmp, ↓ev_const, ↓ev_func, ↓ev_global, init, Nat.reduceEqDiff, Nat.reduceAdd, Nat.reduceMul, Nat.reduceSub, ↓reduceIte, Int.reduceEq, Int.reduceNe, Nat.reduceLeDiff, one, Value.cells, Int.reduceLE, Int.reduceLT, Int.reduceToNat, add_mk, reduceCtorEq, List.mem_range'_1, true_and, and_true, and_false, false_and, Nat.reduceLT, Nat.reduceLeDiff, tyF, v12]
    refine call_ok Try.call17 (tab_get_int w12 b t L10 k other6 rfl hT12) ?_
    rintro _ w13 ⟨_, h2, hm13⟩
    obtain rfl := h2 _ hgo
    simp (config := {maxSteps := 1000000}) only [↓zvN, zvU, ↓up_apply, ↓hv_apply, ↓upO_some, ↓upO_none, ↓ev_tmp, ↓ev_const, ↓ev_func, ↓ev_global, init, Nat.reduceEqDiff, Nat.reduceAdd, Nat.reduceMul, Nat.reduceSub, ↓reduceIte, Int.reduceEq, Int.reduceNe, Nat.reduceLeDiff, one, Value.cells, Int.reduceLE, Int.reduceLT, Int.reduceToNat, add_mk, reduceCtorEq, List.mem_range'_1, true_and, and_true, and_false, false_and, Nat.reduceLT, Nat.reduceLeDiff, tyF]
    exact ⟨rfl, (hM.trans hm12').trans hm13⟩
  have b1 := pk_arr i w12
  have b2 := pk_build (k := i) (by omega) w12
  simp (config := {maxSteps := 1000000}) only [↓zvN, zvU, ↓up_apply, ↓hv_apply, ↓upO_some, ↓upO_none, ↓ev_tmp, ↓ev_const, ↓ev_func, ↓ev_global, init, Nat.reduceEqDiff, Nat.reduceAdd, Nat.reduceMul, Nat.reduceSub, ↓reduceIte, Int.reduceEq, Int.reduceNe, Nat.reduceLeDiff, one, Value.cells, Int.reduceLE, Int.reduceLT, Int.reduceToNat, add_mk, reduceCtorEq, List.mem_range'_1, true_and, and_true, and_false, false_and, Nat.reduceLT, Nat.reduceLeDiff, tyF, h83, eu, b1, b2]
  refine call_ok Try.call17 (tab_get_int w12 b t L10 k (pk i) rfl hT12) ?_
  rintro _ w13 ⟨h1, h2, hm13⟩
  have tt : (true == true) = true := rfl
  have ff : (false == false) = true := rfl
  have hgi := hgk i (by omega)
  by_cases e : i = x
  · rw [if_pos e] at hgi
    obtain rfl := h1 hgi
    have eI : (i : Int) = (x : Int) := by omega
    simp (config := {maxSteps := 1000000}) only [↓zvN, zvU, ↓up_apply, ↓hv_apply, ↓upO_some, ↓upO_none, ↓ev_tmp, ↓ev_const, ↓ev_func, ↓ev_global, init, Nat.reduceEqDiff, Nat.reduceAdd, Nat.reduceMul, Nat.reduceSub, ↓reduceIte, Int.reduceEq, Int.reduceNe, Nat.reduceLeDiff, one, Value.cells, Int.reduceLE, Int.reduceLT, Int.reduceToNat, add_mk, reduceCtorEq, List.mem_range'_1, true_and, and_true, and_false, false_and, Nat.reduceLT, Nat.reduceLeDiff, tyF, h83, eg, eg2, eg3, e, eI, tt, ff]
    rw [show IntKind.i64.wrap ((x : Int) + 1) = ((x + 1 : Nat) : Int) from w64 (by omega) (by omega)]
    refine ⟨⟨?_, x + 1, rfl, by omega, hm12'.trans hm13⟩, by simp only [numOf]; omega⟩
    repeat (first | exact Same.hv _ _ _ | refine Same.up (by simp) ?_)
  · rw [if_neg e] at hgi
    obtain rfl := h2 _ hgi
    have eI : ¬ (i : Int) = (x : Int) := by omega
    simp (config := {maxSteps := 1000000}) only [↓zvN, zvU, ↓up_apply, ↓hv_apply, ↓upO_some, ↓upO_none, ↓ev_tmp, ↓ev_const, ↓ev_func, ↓ev_global, init, Nat.reduceEqDiff, Nat.reduceAdd, Nat.reduceMul, Nat.reduceSub, ↓reduceIte, Int.reduceEq, Int.reduceNe, Nat.reduceLeDiff, one, Value.cells, Int.reduceLE, Int.reduceLT, Int.reduceToNat, add_mk, reduceCtorEq, List.mem_range'_1, true_and, and_true, and_false, false_and, Nat.reduceLT, Nat.reduceLeDiff, tyF, h83, eg, eg2, eg3, e, eI, tt, ff]
    rw [ei]
    refine ⟨⟨?_, i + 1, rfl, by omega, hm12'.trans hm13⟩, by simp only [numOf]; omega⟩
    repeat (first | exact Same.hv _ _ _ | refine Same.up (by simp) ?_)
end Go.Proofs.Ytimhcjakpdebjaa
