/-
  Layer 21: a prefix's bytes, and their order.
-/
import Derived.Test.YtimhcjakpdebjaaNew
import Derived.Test.YtimhcjakpdebjaaSq
import Derived.Laws.Externs
import Derived.Lib.Bytealg
import Derived.Lib.BytesEntry
namespace Go.Proofs.Ytimhcjakpdebjaa
open Go Go.RowKit Go.Proofs.RV
set_option linter.unusedSimpArgs false
set_option linter.unusedVariables false
set_option maxRecDepth 10000
set_option maxHeartbeats 4000000

/-- a prefix's bytes -/
def pkey (p : PrefM) : List UInt8 := (if p.v6 = true then 1 else 0) :: p.addr
theorem pkey_len {p : PrefM} (h : p.addr.length = 7) : (pkey p).length = 8 := by simp [pkey, h]
theorem pkey_inj {p q : PrefM} (h : pkey p = pkey q) : p = q := by
  unfold pkey at h
  simp only [List.cons.injEq] at h
  cases p; cases q
  simp only [PrefM.mk.injEq] at *
  refine ⟨?_, h.2⟩
  have h1 := h.1
  rename_i a _ b _
  cases a <;> cases b <;> simp at h1 <;> rfl
theorem table_bytesOf (w : World) (p : PrefM) (hp : p.addr.length = 7) : Ret Try.prog 44 #[.agg p.cells.toArray] w fun v w' => ∃ g c, v = .slice (some ⟨g, 0, none⟩) 8 c ∧ w.heap.size ≤ g ∧ Bs w' (some ⟨g, 0, none⟩) (pkey p) ∧ 8 ≤ c ∧ MoreD w w' := by
  refine ret_of Try.func44 rfl (by kernel_rfl) (Nat.le_of_ble_eq_true (by kernel_rfl)) ?_
  have hm1 := MoreD.alloc w (.cells p.cells.toArray 24)
  have hb1 := Blk.new w 24 p.cells.toArray
  have s1 := size_alloc w (.cells p.cells.toArray 24)
  simp (config := {maxSteps := 1000000}) only [↓zvD, zvU, ↓up_apply, ↓hv_apply, ↓upO_some, ↓upO_none, ↓ev_tmp, ↓ev_const, ↓ev_func, ↓ev_global, init, Nat.reduceEqDiff, Nat.reduceAdd, Nat.reduceMul, Nat.reduceSub, ↓reduceIte, Int.reduceEq, Int.reduceNe, Nat.reduceLeDiff, one, Value.cells, Int.reduceLE, Int.reduceLT, Int.reduceToNat, add_mk, reduceCtorEq, List.mem_range'_1, true_and, and_true, and_false, false_and, Nat.reduceLT, Nat.reduceLeDiff, tyF]
  generalize w.alloc (.cells p.cells.toArray 24) = w1 at hm1 hb1 s1 ⊢
  rw [List.toList_toArray] at hb1
  have c0 : w1.cell? ⟨w.heap.size, 0, none⟩ = some (.bool p.v6) := by rw [hb1.cell]; rfl
  have hsrc : Bs w1 (some ⟨w.heap.size, 1, none⟩) p.addr := blk_bs hb1 (by simp only [PrefM.cells, List.drop_succ_cons, List.drop_zero]; exact List.take_of_length_le (by simp))
  cases hv : p.v6 with
  | true =>
    rw [hv] at c0
    simp (config := {maxSteps := 1000000}) only [↓zvD, zvU, ↓up_apply, ↓hv_apply, ↓upO_some, ↓upO_none, ↓ev_tmp, ↓ev_const, ↓ev_func, ↓ev_global, init, Nat.reduceEqDiff, Nat.reduceAdd, Nat.reduceMul, Nat.reduceSub, ↓reduceIte, Int.reduceEq, Int.reduceNe, Nat.reduceLeDiff, one, Value.cells, Int.reduceLE, Int.reduceLT, Int.reduceToNat, add_mk, reduceCtorEq, List.mem_range'_1, true_and, and_true, and_false, false_and, Nat.reduceLT, Nat.reduceLeDiff, tyF, c0]
    refine bslice (z := .int .u8 0) (cells := #[.int .u8 1]) Try.underlying87 byteE (by omega) (by have := bcells_list (z := .int .u8 0) [.int .u8 1] (by intro v hv; simp at hv; subst hv; rfl); exact this) ?_
    have hm2 := MoreD.alloc w1 (.cells #[.int .u8 1] 5)
    have hb2 := Blk.new w1 5 #[.int .u8 1]
    have s2 := size_alloc w1 (.cells #[.int .u8 1] 5)
    generalize w1.alloc (.cells #[.int .u8 1] 5) = w2 at hm2 hb2 s2 ⊢
    simp (config := {maxSteps := 1000000}) only [↓zvD, zvU, ↓up_apply, ↓hv_apply, ↓upO_some, ↓upO_none, ↓ev_tmp, ↓ev_const, ↓ev_func, ↓ev_global, init, Nat.reduceEqDiff, Nat.reduceAdd, Nat.reduceMul, Nat.reduceSub, ↓reduceIte, Int.reduceEq, Int.reduceNe, Nat.reduceLeDiff, one, Value.cells, Int.reduceLE, Int.reduceLT, Int.reduceToNat, add_mk, reduceCtorEq, List.mem_range'_1, true_and, and_true, and_false, false_and, Nat.reduceLT, Nat.reduceLeDiff, tyF]
    refine app_fullD (m := 7) Try.underlying87 byteE rfl hb2.cs rfl rfl (hsrc.more hm2.1) (by rw [List.length_map, hp]) (byteV_one _) (by simp only [maxLen]; omega) (by omega) (by omega) ?_
    intro c3 w3 _ ho3 hm3 hd3
    simp (config := {maxSteps := 1000000}) only [↓zvD, zvU, ↓up_apply, ↓hv_apply, ↓upO_some, ↓upO_none, ↓ev_tmp, ↓ev_const, ↓ev_func, ↓ev_global, init, Nat.reduceEqDiff, Nat.reduceAdd, Nat.reduceMul, Nat.reduceSub, ↓reduceIte, Int.reduceEq, Int.reduceNe, Nat.reduceLeDiff, one, Value.cells, Int.reduceLE, Int.reduceLT, Int.reduceToNat, add_mk, reduceCtorEq, List.mem_range'_1, true_and, and_true, and_false, false_and, Nat.reduceLT, Nat.reduceLeDiff, tyF]
    refine ⟨w2.heap.size, c3, rfl, by omega, ?_, ho3.le, (hm1.trans hm2).trans ⟨hm3, hd3⟩⟩
    have hk : pkey p = 1 :: p.addr := by unfold pkey; rw [hv]; rfl
    rw [hk]
    exact ho3.cs
  | false =>
    rw [hv] at c0
    simp (config := {maxSteps := 1000000}) only [↓zvD, zvU, ↓up_apply, ↓hv_apply, ↓upO_some, ↓upO_none, ↓ev_tmp, ↓ev_const, ↓ev_func, ↓ev_global, init, Nat.reduceEqDiff, Nat.reduceAdd, Nat.reduceMul, Nat.reduceSub, ↓reduceIte, Int.reduceEq, Int.reduceNe, Nat.reduceLeDiff, one, Value.cells, Int.reduceLE, Int.reduceLT, Int.reduceToNat, add_mk, reduceCtorEq, List.mem_range'_1, true_and, and_true, and_false, false_and, Nat.reduceLT, Nat.reduceLeDiff, tyF, c0]
    refine bslice (z := .int .u8 0) (cells := #[.int .u8 0]) Try.underlying87 byteE (by omega) (by have := bcells_list (z := .int .u8 0) [.int .u8 0] (by intro v hv; simp at hv; subst hv; rfl); exact this) ?_
    have hm2 := MoreD.alloc w1 (.cells #[.int .u8 0] 5)
    have hb2 := Blk.new w1 5 #[.int .u8 0]
    have s2 := size_alloc w1 (.cells #[.int .u8 0] 5)
    generalize w1.alloc (.cells #[.int .u8 0] 5) = w2 at hm2 hb2 s2 ⊢
    simp (config := {maxSteps := 1000000}) only [↓zvD, zvU, ↓up_apply, ↓hv_apply, ↓upO_some, ↓upO_none, ↓ev_tmp, ↓ev_const, ↓ev_func, ↓ev_global, init, Nat.reduceEqDiff, Nat.reduceAdd, Nat.reduceMul, Nat.reduceSub, ↓reduceIte, Int.reduceEq, Int.reduceNe, Nat.reduceLeDiff, one, Value.cells, Int.reduceLE, Int.reduceLT, Int.reduceToNat, add_mk, reduceCtorEq, List.mem_range'_1, true_and, and_true, and_false, false_and, Nat.reduceLT, Nat.reduceLeDiff, tyF]
    refine app_fullD (m := 7) Try.underlying87 byteE rfl hb2.cs rfl rfl (hsrc.more hm2.1) (by rw [List.length_map, hp]) (byteV_one _) (by simp only [maxLen]; omega) (by omega) (by omega) ?_
    intro c3 w3 _ ho3 hm3 hd3
    simp (config := {maxSteps := 1000000}) only [↓zvD, zvU, ↓up_apply, ↓hv_apply, ↓upO_some, ↓upO_none, ↓ev_tmp, ↓ev_const, ↓ev_func, ↓ev_global, init, Nat.reduceEqDiff, Nat.reduceAdd, Nat.reduceMul, Nat.reduceSub, ↓reduceIte, Int.reduceEq, Int.reduceNe, Nat.reduceLeDiff, one, Value.cells, Int.reduceLE, Int.reduceLT, Int.reduceToNat, add_mk, reduceCtorEq, List.mem_range'_1, true_and, and_true, and_false, false_and, Nat.reduceLT, Nat.reduceLeDiff, tyF]
    refine ⟨w2.heap.size, c3, rfl, by omega, ?_, ho3.le, (hm1.trans hm2).trans ⟨hm3, hd3⟩⟩
    have hk : pkey p = 0 :: p.addr := by unfold pkey; rw [hv]; rfl
    rw [hk]
    exact ho3.cs
theorem run_loadBytes {P : Program} {w : World} {a : Addr} {l : List UInt8} (h : Bs w (some a) l) : (Extern.Bytes.loadBytes a l.length .empty).run P w = .ok (bstr l) w := by
  have h1 := Lib.run_loadBytesX (P := P) (w := w) (l.map fun b => (b.toNat : Int)) a .empty (fun j x hx => by
    rw [List.getElem?_map] at hx
    cases hl : l[j]? with
    | none => rw [hl] at hx; cases hx
    | some b =>
      rw [hl] at hx
      simp only [Option.map_some, Option.some.injEq] at hx
      subst hx
      obtain ⟨b', hb, hc⟩ := h j (byteV b) (by rw [List.getElem?_map, hl]; rfl)
      cases hb
      exact hc)
  rw [List.length_map] at h1
  rw [h1]
  congr 1
  apply ByteArray.ext
  simp [bstr, Lib.bytesOf]
  conv => rhs; rw [← List.map_id l]
  refine List.map_congr_left fun b _ => ?_
  simp
theorem run_bytesOf {P : Program} {w : World} {A : Option Addr} {l : List UInt8} {c : Nat} (h : Bs w A l) : (Extern.Bytes.bytesOf (.slice A l.length c)).run P w = .ok (bstr l) w := by
  cases A with
  | none =>
    have : l = [] := by
      cases l with
      | nil => rfl
      | cons b r => obtain ⟨a, ha, _⟩ := h.at_ (i := 0) (by simp); cases ha
    subst this
    rfl
  | some a => exact run_loadBytes h
theorem bytes_compare (w : World) (A : Option Addr) (l : List UInt8) (c : Nat) (A' : Option Addr) (m : List UInt8) (c' : Nat) (hA : Bs w A l) (hA' : Bs w A' m) :
    Ret Try.prog 43 #[.slice A l.length c, .slice A' m.length c'] w fun v w' => v = .int .i64 (Lib.compareBytes l m) ∧ w' = w := by
  refine ret_of Try.func43 rfl (by kernel_rfl) (Nat.le_of_ble_eq_true (by kernel_rfl)) ?_
  simp (config := {maxSteps := 1000000}) only [↓zvD, zvU, ↓up_apply, ↓hv_apply, ↓upO_some, ↓upO_none, ↓ev_tmp, ↓ev_const, ↓ev_func, ↓ev_global, init, Nat.reduceEqDiff, Nat.reduceAdd, Nat.reduceMul, Nat.reduceSub, ↓reduceIte, Int.reduceEq, Int.reduceNe, Nat.reduceLeDiff, one, Value.cells, Int.reduceLE, Int.reduceLT, Int.reduceToNat, add_mk, reduceCtorEq, List.mem_range'_1, true_and, and_true, and_false, false_and, Nat.reduceLT, Nat.reduceLeDiff, tyF]
  have hr : (callFunc 63 #[.slice A l.length c, .slice A' m.length c']).run Try.prog w = .ok (.value (.int .i64 (Lib.compareBytes l m))) w := by
    rw [run_callFunc_extern Try.func63 (by kernel_rfl) (by kernel_rfl) (by kernel_rfl) (e := Extern.BytealgCompare.compare) (by kernel_rfl)]
    have : (Extern.BytealgCompare.compare #[.slice A l.length c, .slice A' m.length c']).run Try.prog w = .ok (.int .i64 (Lib.compareBytes l m)) w := by
      show Sem.run Try.prog (do pure (goInt (Extern.BytealgCompare.cmp (← Extern.Bytes.bytesOf (.slice A l.length c)) (← Extern.Bytes.bytesOf (.slice A' m.length c'))))) w = _
      rw [Sem.run_bind, run_bytesOf hA]
      simp only [Result.andThen_ok]
      rw [Sem.run_bind, run_bytesOf hA']
      simp only [Result.andThen_ok, Sem.run_pure]
      rw [Lib.cmp_eq]
      rfl
    rw [this]
    rfl
  refine call_ext hr ?_
  simp (config := {maxSteps := 1000000}) only [↓zvD, zvU, ↓up_apply, ↓hv_apply, ↓upO_some, ↓upO_none, ↓ev_tmp, ↓ev_const, ↓ev_func, ↓ev_global, init, Nat.reduceEqDiff, Nat.reduceAdd, Nat.reduceMul, Nat.reduceSub, ↓reduceIte, Int.reduceEq, Int.reduceNe, Nat.reduceLeDiff, one, Value.cells, Int.reduceLE, Int.reduceLT, Int.reduceToNat, add_mk, reduceCtorEq, List.mem_range'_1, true_and, and_true, and_false, false_and, Nat.reduceLT, Nat.reduceLeDiff, tyF]
/-! ### The order of texts -/
theorem cmp_self : ∀ l : List UInt8, Lib.compareBytes l l = 0
  | [] => rfl
  | b :: l => by unfold Lib.compareBytes; rw [if_neg (UInt8.lt_irrefl b), if_neg (UInt8.lt_irrefl b), cmp_self l]
theorem cmp_anti : ∀ l m : List UInt8, Lib.compareBytes m l = - Lib.compareBytes l m
  | [], [] => rfl
  | [], _ :: _ => rfl
  | _ :: _, [] => rfl
  | a :: l, b :: m => by
    unfold Lib.compareBytes
    by_cases h1 : a < b
    · rw [if_neg (UInt8.lt_asymm h1), if_pos h1, if_pos h1]; rfl
    · by_cases h2 : b < a
      · rw [if_pos h2, if_neg h1, if_pos h2]
      · rw [if_neg h2, if_neg h1, if_neg h1, if_neg h2, cmp_anti l m]
theorem cmp_zero : ∀ l m : List UInt8, Lib.compareBytes l m = 0 → l = m
  | [], [], _ => rfl
  | [], _ :: _, h => by cases h
  | _ :: _, [], h => by cases h
  | a :: l, b :: m, h => by
    unfold Lib.compareBytes at h
    by_cases h1 : a < b
    · rw [if_pos h1] at h; cases h
    · by_cases h2 : b < a
      · rw [if_neg h1, if_pos h2] at h; cases h
      · rw [if_neg h1, if_neg h2] at h
        rw [cmp_zero l m h, UInt8.le_antisymm (UInt8.not_lt.1 h2) (UInt8.not_lt.1 h1)]
theorem cmp_trans : ∀ a b c : List UInt8, Lib.compareBytes a b < 0 → Lib.compareBytes b c < 0 → Lib.compareBytes a c < 0
  | [], [], _, h, _ => by cases h
  | [], _ :: _, [], _, h => by cases h
  | [], _ :: _, _ :: _, _, _ => by unfold Lib.compareBytes; decide
  | _ :: _, [], _, h, _ => by cases h
  | _ :: _, _ :: _, [], _, h => by cases h
  | x :: a, y :: b, z :: c, h, k => by
    unfold Lib.compareBytes at h k ⊢
    by_cases h1 : x < y
    · rw [if_pos h1] at h
      by_cases k1 : y < z
      · rw [if_pos (UInt8.lt_trans h1 k1)]; decide
      · by_cases k2 : z < y
        · rw [if_neg k1, if_pos k2] at k; cases k
        · have : y = z := UInt8.le_antisymm (UInt8.not_lt.1 k2) (UInt8.not_lt.1 k1)
          rw [← this, if_pos h1]; decide
    · by_cases h2 : y < x
      · rw [if_neg h1, if_pos h2] at h; cases h
      · have hxy : x = y := UInt8.le_antisymm (UInt8.not_lt.1 h2) (UInt8.not_lt.1 h1)
        subst hxy
        rw [if_neg h1, if_neg h1] at h
        by_cases k1 : x < z
        · rw [if_pos k1]; decide
        · by_cases k2 : z < x
          · rw [if_neg k1, if_pos k2] at k; cases k
          · rw [if_neg k1, if_neg k2] at k ⊢
            exact cmp_trans a b c h k
/-- who stands ahead -/
def plt (a b : PrefM) : Prop := Lib.compareBytes (pkey a) (pkey b) < 0
instance (a b : PrefM) : Decidable (plt a b) := by unfold plt; infer_instance
theorem plt_irrefl (a : PrefM) : ¬ plt a a := by unfold plt; rw [cmp_self]; decide
theorem plt_trans {a b c : PrefM} (h : plt a b) (k : plt b c) : plt a c := cmp_trans _ _ _ h k
theorem plt_total {a b : PrefM} (h : a ≠ b) : plt a b ↔ ¬ plt b a := by
  unfold plt
  rw [cmp_anti (pkey a) (pkey b)]
  have : Lib.compareBytes (pkey a) (pkey b) ≠ 0 := fun h0 => h (pkey_inj (cmp_zero _ _ h0))
  omega
theorem table_less (w : World) (p q : PrefM) (hp : p.addr.length = 7) (hq : q.addr.length = 7) : Ret Try.prog 11 #[.agg p.cells.toArray, .agg q.cells.toArray] w fun v w' => v = .bool (decide (plt p q)) ∧ More w w' := by
  refine ret_of Try.func11 rfl (by kernel_rfl) (Nat.le_of_ble_eq_true (by kernel_rfl)) ?_
  have hm1 := more_alloc w (.cells p.cells.toArray 24)
  have hb1 := Blk.new w 24 p.cells.toArray
  have s1 := size_alloc w (.cells p.cells.toArray 24)
  simp (config := {maxSteps := 1000000}) only [↓zvD, zvU, ↓up_apply, ↓hv_apply, ↓upO_some, ↓upO_none, ↓ev_tmp, ↓ev_const, ↓ev_func, ↓ev_global, init, Nat.reduceEqDiff, Nat.reduceAdd, Nat.reduceMul, Nat.reduceSub, ↓reduceIte, Int.reduceEq, Int.reduceNe, Nat.reduceLeDiff, one, Value.cells, Int.reduceLE, Int.reduceLT, Int.reduceToNat, add_mk, reduceCtorEq, List.mem_range'_1, true_and, and_true, and_false, false_and, Nat.reduceLT, Nat.reduceLeDiff, tyF]
  have hsz := s1
  generalize w.alloc (.cells p.cells.toArray 24) = w1 at hm1 hb1 s1 ⊢
  have hm2 := more_alloc w1 (.cells q.cells.toArray 24)
  have hb2 := Blk.new w1 24 q.cells.toArray
  generalize w1.alloc (.cells q.cells.toArray 24) = w2 at hm2 hb2 ⊢
  rw [s1] at hb2
  rw [List.toList_toArray] at hb1 hb2
  have hcl : ∀ {x : PrefM}, x.addr.length = 7 → x.cells.length = 8 := fun h => by simp [PrefM.cells, h]
  have v1 := (hb1.more hm2).all_eq 8 (hcl hp)
  have v2 := hb2.all_eq 8 (hcl hq)
  have k1 := pkey_len hp
  have k2 := pkey_len hq
  refine draw_name fun K hK => ?_
  refine draw_seen 3 [[], [0], [], [0, 1, 2], [0, 1, 2, 3], [0, 1, 2, 3, 4], [0, 1, 2, 3, 4, 5]] (RV.look [(1, RV.BsF (pkey p))]) mixed (by kernel_rfl) (by kernel_rfl) (look_keeps _ (by simp [keepsV, keepsB])) ?_
  simp (config := {maxSteps := 1000000}) only [↓zvD, zvU, ↓zqD, ↓up_apply, ↓hv_apply, ↓upO_some, ↓upO_none, ↓ev_tmp, ↓ev_const, ↓ev_func, ↓ev_global, init, Nat.reduceEqDiff, Nat.reduceAdd, Nat.reduceMul, Nat.reduceSub, ↓reduceIte, Int.reduceEq, Int.reduceNe, Nat.reduceLeDiff, one, Value.cells, Int.reduceLE, Int.reduceLT, Int.reduceToNat, add_mk, reduceCtorEq, List.mem_range'_1, true_and, and_true, and_false, false_and, Nat.reduceLT, Nat.reduceLeDiff, tyF, hsz, s1, v1, v2]
  refine ⟨fun w3 hm3 => call_ok Try.call44 (table_bytesOf w3 p hp) ?_, ?_⟩
  · rintro _ w4 ⟨g, c, rfl, hg, hB, hc, hm4⟩
    simp (config := {maxSteps := 1000000}) only [↓zvD, zvU, ↓zqD, ↓up_apply, ↓hv_apply, ↓upO_some, ↓upO_none, ↓ev_tmp, ↓ev_const, ↓ev_func, ↓ev_global, init, Nat.reduceEqDiff, Nat.reduceAdd, Nat.reduceMul, Nat.reduceSub, ↓reduceIte, Int.reduceEq, Int.reduceNe, Nat.reduceLeDiff, one, Value.cells, Int.reduceLE, Int.reduceLT, Int.reduceToNat, add_mk, reduceCtorEq, List.mem_range'_1, true_and, and_true, and_false, false_and, Nat.reduceLT, Nat.reduceLeDiff]
    exact ⟨hm4.1, some ⟨g, 0, none⟩, c, by rw [k1], hB⟩
  rintro _ ⟨w3, hm3, A3, c3, rfl, _⟩
  simp (config := {maxSteps := 1000000}) only [↓zvD, zvU, ↓zqD, ↓up_apply, ↓hv_apply, ↓upO_some, ↓upO_none, ↓ev_tmp, ↓ev_const, ↓ev_func, ↓ev_global, init, Nat.reduceEqDiff, Nat.reduceAdd, Nat.reduceMul, Nat.reduceSub, ↓reduceIte, Int.reduceEq, Int.reduceNe, Nat.reduceLeDiff, one, Value.cells, Int.reduceLE, Int.reduceLT, Int.reduceToNat, add_mk, reduceCtorEq, List.mem_range'_1, true_and, and_true, and_false, false_and, Nat.reduceLT, Nat.reduceLeDiff, tyF, hsz, s1, v1, v2]
  intro w4 hm4 hB4
  obtain ⟨A3', c3', e, hB4⟩ := hB4
  cases e
  have v2 := (hb2.more hm4).all_eq 8 (hcl hq)
  refine call_ok Try.call44 (table_bytesOf w4 q hq) ?_
  rintro _ w5 ⟨g5, c5, rfl, hg5, hB5, hc5, hm5⟩
  simp (config := {maxSteps := 1000000}) only [↓zvD, zvU, ↓up_apply, ↓hv_apply, ↓upO_some, ↓upO_none, ↓ev_tmp, ↓ev_const, ↓ev_func, ↓ev_global, init, Nat.reduceEqDiff, Nat.reduceAdd, Nat.reduceMul, Nat.reduceSub, ↓reduceIte, Int.reduceEq, Int.reduceNe, Nat.reduceLeDiff, one, Value.cells, Int.reduceLE, Int.reduceLT, Int.reduceToNat, add_mk, reduceCtorEq, List.mem_range'_1, true_and, and_true, and_false, false_and, Nat.reduceLT, Nat.reduceLeDiff, tyF, p_nil]
  have hcc := bytes_compare w5 A3 (pkey p) c3 (some ⟨g5, 0, none⟩) (pkey q) c5 (hB4.more hm5.1) hB5
  rw [k2] at hcc
  refine call_ok Try.call43 hcc ?_
  rintro _ w6 ⟨rfl, rfl⟩
  simp (config := {maxSteps := 1000000}) only [↓zvD, zvU, ↓up_apply, ↓hv_apply, ↓upO_some, ↓upO_none, ↓ev_tmp, ↓ev_const, ↓ev_func, ↓ev_global, init, Nat.reduceEqDiff, Nat.reduceAdd, Nat.reduceMul, Nat.reduceSub, ↓reduceIte, Int.reduceEq, Int.reduceNe, Nat.reduceLeDiff, one, Value.cells, Int.reduceLE, Int.reduceLT, Int.reduceToNat, add_mk, reduceCtorEq, List.mem_range'_1, true_and, and_true, and_false, false_and, Nat.reduceLT, Nat.reduceLeDiff, tyF, p_nil]
  refine hK _ _ ?_
  simp (config := {maxSteps := 1000000}) only [↓zvD, zvU, ↓up_apply, ↓hv_apply, ↓upO_some, ↓upO_none, ↓ev_tmp, ↓ev_const, ↓ev_func, ↓ev_global, init, Nat.reduceEqDiff, Nat.reduceAdd, Nat.reduceMul, Nat.reduceSub, ↓reduceIte, Int.reduceEq, Int.reduceNe, Nat.reduceLeDiff, one, Value.cells, Int.reduceLE, Int.reduceLT, Int.reduceToNat, add_mk, reduceCtorEq, List.mem_range'_1, true_and, and_true, and_false, false_and, Nat.reduceLT, Nat.reduceLeDiff, tyF, p_nil]
  exact ⟨rfl, ((hm1.trans hm2).trans hm4).trans hm5.1⟩
end Go.Proofs.Ytimhcjakpdebjaa
