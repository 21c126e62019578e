/-
  Layer 21: what the statements share: prefixes that come in, the guard; prefixes have one order (TableOrder).
-/
import Derived.Test.YtimhcjakpdebjaaRef21
import Derived.Test.YtimhcjakpdebjaaLa
namespace Go.Proofs.Ytimhcjakpdebjaa
open Go Go.RowKit Go.Proofs.RV
set_option linter.unusedSimpArgs false
set_option linter.unusedVariables false
set_option maxRecDepth 10000
set_option maxHeartbeats 4000000
theorem pref_in {w : World} {k : Nat} {cs : List Value} (h : Lays Try.prog w k 24 cs) : ∃ p : PrefM, cs = p.cells ∧ p.addr.length = 7 := by
  have hl := (h.field Try.underlying24).1
  obtain ⟨_, f0⟩ := h.fieldAt Try.underlying24 0 4 0 rfl cells4
  obtain ⟨_, f1⟩ := h.fieldAt Try.underlying24 1 22 1 rfl cells22
  obtain ⟨t, e0⟩ := f0.bool Try.underlying4
  obtain ⟨s, l1, e1⟩ := f1.bytes Try.underlying22 Try.underlying5 cells5 cells22
  rw [cells24] at hl
  refine ⟨⟨t, s⟩, ?_, l1⟩
  have e : cs = [Value.bool t] ++ s.map byteV := by
    rw [← e0, ← e1]
    conv => lhs; rw [← List.drop_zero (l := cs), cut_at _ 0 1, cut_at _ (0 + 1) 7]
    rw [List.drop_eq_nil_of_le (i := 0 + 1 + 7) (by omega), List.append_nil]
  rw [e]
  rfl
theorem pref0 (w0 : World) (K : Value → Prop) : pureP Try.prog (Instr.build 24 #[]) K = K (.agg prefZ.cells.toArray) :=
  build_of prefZ.cells (by kernel_rfl) zerPref rfl w0 K
theorem prefZ_len : prefZ.addr.length = 7 := rfl
theorem two_more {w w1 w2 : World} {b t : Nat} (h : More w w1) (hm : Mod (two b t) w1 w2) (hb : w.heap.size ≤ b) (ht : w.heap.size ≤ t) : More w w2 :=
  Mod.more h hm (fun k hk h => by rcases h with h | h <;> omega)
theorem awake21 (w : World) : Ret Try.prog 10 #[] w fun v w' => v = .bool true ∧ More w w' := by
  refine ret_of Try.func10 rfl (by kernel_rfl) (Nat.le_of_ble_eq_true (by kernel_rfl)) ?_
  simp (config := {maxSteps := 1000000}) only [↓zvN, zvU, ↓up_apply, ↓hv_apply, ↓upO_some, ↓upO_none, ↓ev_tmp, ↓ev_const, ↓ev_func, ↓ev_global, init, Nat.reduceEqDiff, Nat.reduceAdd, Nat.reduceMul, Nat.reduceSub, ↓reduceIte, Int.reduceEq, Int.reduceNe, Nat.reduceLeDiff, one, Value.cells, Int.reduceLE, Int.reduceLT, Int.reduceToNat, add_mk, reduceCtorEq, List.mem_range'_1, true_and, and_true, and_false, false_and, Nat.reduceLT, Nat.reduceLeDiff, tyF]
  refine call_ok Try.call13 (tab_new_int w 1 (by omega) (by omega)) ?_
  rintro _ w1 ⟨b, t, rfl, hb, ht, hT, hm1⟩
  simp (config := {maxSteps := 1000000}) only [↓zvN, zvU, ↓up_apply, ↓hv_apply, ↓upO_some, ↓upO_none, ↓ev_tmp, ↓ev_const, ↓ev_func, ↓ev_global, init, Nat.reduceEqDiff, Nat.reduceAdd, Nat.reduceMul, Nat.reduceSub, ↓reduceIte, Int.reduceEq, Int.reduceNe, Nat.reduceLeDiff, one, Value.cells, Int.reduceLE, Int.reduceLT, Int.reduceToNat, add_mk, reduceCtorEq, List.mem_range'_1, true_and, and_true, and_false, false_and, Nat.reduceLT, Nat.reduceLeDiff, tyF, pref0 w1]
  refine call_ok Try.call17 (tab_get_int w1 b t [] 1 prefZ prefZ_len hT) ?_
  rintro _ w2 ⟨h1, _, hm2⟩
  obtain rfl := h1 rfl
  simp (config := {maxSteps := 1000000}) only [↓zvN, zvU, ↓up_apply, ↓hv_apply, ↓upO_some, ↓upO_none, ↓ev_tmp, ↓ev_const, ↓ev_func, ↓ev_global, init, Nat.reduceEqDiff, Nat.reduceAdd, Nat.reduceMul, Nat.reduceSub, ↓reduceIte, Int.reduceEq, Int.reduceNe, Nat.reduceLeDiff, one, Value.cells, Int.reduceLE, Int.reduceLT, Int.reduceToNat, add_mk, reduceCtorEq, List.mem_range'_1, true_and, and_true, and_false, false_and, Nat.reduceLT, Nat.reduceLeDiff, tyF, pref0 w2]
  refine call_ok Try.call14 (tab_put_int w2 b t [] 1 prefZ 5 prefZ_len (hT.more hm2) (by omega)) ?_
  rintro _ w3 ⟨rfl, hT3, hm3⟩
  have hok : putOk ([] : List EntM) 1 prefZ = true := rfl
  rw [hok]
  simp (config := {maxSteps := 1000000}) only [↓zvN, zvU, ↓up_apply, ↓hv_apply, ↓upO_some, ↓upO_none, ↓ev_tmp, ↓ev_const, ↓ev_func, ↓ev_global, init, Nat.reduceEqDiff, Nat.reduceAdd, Nat.reduceMul, Nat.reduceSub, ↓reduceIte, Int.reduceEq, Int.reduceNe, Nat.reduceLeDiff, one, Value.cells, Int.reduceLE, Int.reduceLT, Int.reduceToNat, add_mk, reduceCtorEq, List.mem_range'_1, true_and, and_true, and_false, false_and, Nat.reduceLT, Nat.reduceLeDiff, tyF, hok]
  refine call_ok Try.call15 (tab_len_int w3 b t _ 1 hT3) ?_
  rintro _ w4 ⟨rfl, rfl⟩
  have hl : (putA ([] : List EntM) 1 prefZ [.int .i64 5]).length = 1 := by decide
  rw [hl]
  simp (config := {maxSteps := 1000000}) only [↓zvN, zvU, ↓up_apply, ↓hv_apply, ↓upO_some, ↓upO_none, ↓ev_tmp, ↓ev_const, ↓ev_func, ↓ev_global, init, Nat.reduceEqDiff, Nat.reduceAdd, Nat.reduceMul, Nat.reduceSub, ↓reduceIte, Int.reduceEq, Int.reduceNe, Nat.reduceLeDiff, one, Value.cells, Int.reduceLE, Int.reduceLT, Int.reduceToNat, add_mk, reduceCtorEq, List.mem_range'_1, true_and, and_true, and_false, false_and, Nat.reduceLT, Nat.reduceLeDiff, tyF]
  exact ⟨rfl, two_more (hm1.trans hm2) hm3 hb ht⟩
def pBool (p q : PrefM) : Bool := decide (plt p q)
theorem table_order (w : World) (p q r : PrefM) (hp : p.addr.length = 7) (hq : q.addr.length = 7) (hr : r.addr.length = 7) :
    Ret Try.prog 3 #[.agg p.cells.toArray, .agg q.cells.toArray, .agg r.cells.toArray] w fun v w' => v = .bool true ∧ More w w' := by
  refine ret_of Try.func3 rfl (by kernel_rfl) (Nat.le_of_ble_eq_true (by kernel_rfl)) ?_
  have c8 : ∀ {p : PrefM}, p.addr.length = 7 → p.cells.length = 8 := fun h => by simp [PrefM.cells, h]
  have s1 := size_alloc w (.cells p.cells.toArray 24)
  have s2 := size_alloc (w.alloc (.cells p.cells.toArray 24)) (.cells q.cells.toArray 24)
  rw [s1] at s2
  have m1 := more_alloc w (.cells p.cells.toArray 24)
  have m2 := more_alloc (w.alloc (.cells p.cells.toArray 24)) (.cells q.cells.toArray 24)
  have m3 := more_alloc ((w.alloc (.cells p.cells.toArray 24)).alloc (.cells q.cells.toArray 24)) (.cells r.cells.toArray 24)
  have b1 := ((Blk.new w 24 p.cells.toArray).more m2).more m3
  have b2 := (Blk.new (w.alloc (.cells p.cells.toArray 24)) 24 q.cells.toArray).more m3
  have b3 := Blk.new ((w.alloc (.cells p.cells.toArray 24)).alloc (.cells q.cells.toArray 24)) 24 r.cells.toArray
  rw [s1] at b2
  rw [s2] at b3
  rw [List.toList_toArray] at b1 b2 b3
  have hm := (m1.trans m2).trans m3
  simp (config := {maxSteps := 1000000}) only [↓zvN, zvU, ↓up_apply, ↓hv_apply, ↓upO_some, ↓upO_none, ↓ev_tmp, ↓ev_const, ↓ev_func, ↓ev_global, init, Nat.reduceEqDiff, Nat.reduceAdd, Nat.reduceMul, Nat.reduceSub, ↓reduceIte, Int.reduceEq, Int.reduceNe, Nat.reduceLeDiff, one, Value.cells, Int.reduceLE, Int.reduceLT, Int.reduceToNat, add_mk, reduceCtorEq, List.mem_range'_1, true_and, and_true, and_false, false_and, Nat.reduceLT, Nat.reduceLeDiff, tyF, s1, s2]
  refine call_ok Try.call10 (awake21 _) ?_
  rintro _ w1 ⟨rfl, hm1⟩
  replace b1 := b1.more hm1
  replace b2 := b2.more hm1
  replace b3 := b3.more hm1
  replace hm := hm.trans hm1
  clear hm1 m1 m2 m3
  have v1 := b1.all_eq 8 (c8 hp)
  have v2 := b2.all_eq 8 (c8 hq)
  have v3 := b3.all_eq 8 (c8 hr)
  have l1 := b1.lt
  have l2 := b2.lt
  have l3 := b3.lt
  simp (config := {maxSteps := 1000000}) only [↓zvN, zvU, ↓up_apply, ↓hv_apply, ↓upO_some, ↓upO_none, ↓ev_tmp, ↓ev_const, ↓ev_func, ↓ev_global, init, Nat.reduceEqDiff, Nat.reduceAdd, Nat.reduceMul, Nat.reduceSub, ↓reduceIte, Int.reduceEq, Int.reduceNe, Nat.reduceLeDiff, one, Value.cells, Int.reduceLE, Int.reduceLT, Int.reduceToNat, add_mk, reduceCtorEq, List.mem_range'_1, true_and, and_true, and_false, false_and, Nat.reduceLT, Nat.reduceLeDiff, tyF, s1, s2]
  refine draw_name fun K hK => ?_
  refine draw_seen 5 [[], [], [0, 1], [], [], [0, 1, 2, 3, 4], [0, 1, 2, 3, 4, 5], [0, 1, 2, 3, 4, 5, 6]] (RV.look [(2, RV.IsV (.bool (decide (plt p q)))), (5, RV.IsV (.bool (decide (plt q r))))]) mixed (by kernel_rfl) (by kernel_rfl) (look_keeps _ (by simp [keepsV])) ?_
  simp (config := {maxSteps := 1000000}) only [↓zvN, zvU, ↓zqD, ↓up_apply, ↓hv_apply, ↓upO_some, ↓upO_none, ↓ev_tmp, ↓ev_const, ↓ev_func, ↓ev_global, init, Nat.reduceEqDiff, Nat.reduceAdd, Nat.reduceMul, Nat.reduceSub, ↓reduceIte, Int.reduceEq, Int.reduceNe, Nat.reduceLeDiff, one, Value.cells, Int.reduceLE, Int.reduceLT, Int.reduceToNat, add_mk, reduceCtorEq, List.mem_range'_1, true_and, and_true, and_false, false_and, Nat.reduceLT, Nat.reduceLeDiff, tyF, s1, s2, v1, v2, v3, l1, l2, l3]
  refine ⟨fun w2 hm2 => call_ok Try.call11 (table_less w2 p q hp hq) ?_, ?_⟩
  · rintro _ w3 ⟨rfl, hm3⟩
    simp (config := {maxSteps := 1000000}) only [↓zvN, zvU, ↓zqD, ↓up_apply, ↓hv_apply, ↓upO_some, ↓upO_none, ↓ev_tmp, ↓ev_const, ↓ev_func, ↓ev_global, init, Nat.reduceEqDiff, Nat.reduceAdd, Nat.reduceMul, Nat.reduceSub, ↓reduceIte, Int.reduceEq, Int.reduceNe, Nat.reduceLeDiff, one, Value.cells, Int.reduceLE, Int.reduceLT, Int.reduceToNat, add_mk, reduceCtorEq, List.mem_range'_1, true_and, and_true, and_false, false_and, Nat.reduceLT, Nat.reduceLeDiff, tyF]
    exact ⟨hm3, rfl⟩
  rintro _ ⟨_, _, rfl⟩
  simp (config := {maxSteps := 1000000}) only [↓zvN, zvU, ↓zqD, ↓up_apply, ↓hv_apply, ↓upO_some, ↓upO_none, ↓ev_tmp, ↓ev_const, ↓ev_func, ↓ev_global, init, Nat.reduceEqDiff, Nat.reduceAdd, Nat.reduceMul, Nat.reduceSub, ↓reduceIte, Int.reduceEq, Int.reduceNe, Nat.reduceLeDiff, one, Value.cells, Int.reduceLE, Int.reduceLT, Int.reduceToNat, add_mk, reduceCtorEq, List.mem_range'_1, true_and, and_true, and_false, false_and, Nat.reduceLT, Nat.reduceLeDiff, tyF, s1, s2, v1, v2, v3, l1, l2, l3]
  intro w2 hm2 _
  refine call_ok Try.call11 (table_less w2 q r hq hr) ?_
  rintro _ w3 ⟨rfl, hm3⟩
  simp (config := {maxSteps := 1000000}) only [↓zvN, zvU, ↓up_apply, ↓hv_apply, ↓upO_some, ↓upO_none, ↓ev_tmp, ↓ev_const, ↓ev_func, ↓ev_global, init, Nat.reduceEqDiff, Nat.reduceAdd, Nat.reduceMul, Nat.reduceSub, ↓reduceIte, Int.reduceEq, Int.reduceNe, Nat.reduceLeDiff, one, Value.cells, Int.reduceLE, Int.reduceLT, Int.reduceToNat, add_mk, reduceCtorEq, List.mem_range'_1, true_and, and_true, and_false, false_and, Nat.reduceLT, Nat.reduceLeDiff, tyF, p_nil]
  refine hK _ _ ?_
  clear hK K
  replace b1 := (b1.more hm2).more hm3
  replace b2 := (b2.more hm2).more hm3
  replace b3 := (b3.more hm2).more hm3
  replace hm := (hm.trans hm2).trans hm3
  clear hm2 hm3 v1 v2 v3 l1 l2 l3
  have ld : ∀ {w4 : World} {q : Nat} {x : PrefM}, x.addr.length = 7 → Blk w3 q 24 x.cells → More w3 w4 → ∀ K : Value → Prop, ldRow 8 ⟨q, 0, none⟩ w4 K = K (.agg x.cells.toArray) := fun hx hb hm K => (hb.more hm).all_eq 8 (c8 hx) K
  have v1 := ld hp b1 (More.refl _)
  have v2 := ld hq b2 (More.refl _)
  simp (config := {maxSteps := 1000000}) only [↓zvN, zvU, ↓up_apply, ↓hv_apply, ↓upO_some, ↓upO_none, ↓ev_tmp, ↓ev_const, ↓ev_func, ↓ev_global, init, Nat.reduceEqDiff, Nat.reduceAdd, Nat.reduceMul, Nat.reduceSub, ↓reduceIte, Int.reduceEq, Int.reduceNe, Nat.reduceLeDiff, one, Value.cells, Int.reduceLE, Int.reduceLT, Int.reduceToNat, add_mk, reduceCtorEq, List.mem_range'_1, true_and, and_true, and_false, false_and, Nat.reduceLT, Nat.reduceLeDiff, tyF, s1, s2, v1, v2]
  refine call_ok Try.call12 (ref_less w3 p q hp hq) ?_
  rintro _ w4 ⟨rfl, hm4⟩
  have e1 : ∀ b : Bool, (b == b) = true := fun b => by simp
  have tf : (true == false) = false := rfl
  have ft : (false == true) = false := rfl
  have v1 := ld hp b1 hm4
  simp (config := {maxSteps := 1000000}) only [↓zvN, zvU, ↓up_apply, ↓hv_apply, ↓upO_some, ↓upO_none, ↓ev_tmp, ↓ev_const, ↓ev_func, ↓ev_global, init, Nat.reduceEqDiff, Nat.reduceAdd, Nat.reduceMul, Nat.reduceSub, ↓reduceIte, Int.reduceEq, Int.reduceNe, Nat.reduceLeDiff, one, Value.cells, Int.reduceLE, Int.reduceLT, Int.reduceToNat, add_mk, reduceCtorEq, List.mem_range'_1, true_and, and_true, and_false, false_and, Nat.reduceLT, Nat.reduceLeDiff, tyF, s1, s2, v1, e1]
  refine call_ok Try.call11 (table_less w4 p p hp hp) ?_
  rintro _ w5 ⟨rfl, hm5⟩
  have hm35 := hm4.trans hm5
  have hpp : decide (plt p p) = false := decide_eq_false (plt_irrefl p)
  have v1 := ld hp b1 hm35
  have v2 := ld hq b2 hm35
  have v3 := ld hr b3 hm35
  have peq := pref_eq hp hq w5
  by_cases e : p = q
  · have hxf : decide (plt p q) = false := by rw [e]; exact decide_eq_false (plt_irrefl q)
    have peq2 : ∀ ox oy K, _ := fun ox oy K => (peq ox oy K).trans (show _ = K (.bool true) by simp only [e, decide_true])
    simp (config := {maxSteps := 1000000}) only [↓zvN, zvU, ↓up_apply, ↓hv_apply, ↓upO_some, ↓upO_none, ↓ev_tmp, ↓ev_const, ↓ev_func, ↓ev_global, init, Nat.reduceEqDiff, Nat.reduceAdd, Nat.reduceMul, Nat.reduceSub, ↓reduceIte, Int.reduceEq, Int.reduceNe, Nat.reduceLeDiff, one, Value.cells, Int.reduceLE, Int.reduceLT, Int.reduceToNat, add_mk, reduceCtorEq, List.mem_range'_1, true_and, and_true, and_false, false_and, Nat.reduceLT, Nat.reduceLeDiff, tyF, s1, s2, v1, v2, hpp, peq2, hxf]
    exact ⟨rfl, hm.trans hm35⟩
  · have peq2 : ∀ ox oy K, _ := fun ox oy K => (peq ox oy K).trans (show _ = K (.bool false) by simp only [e, decide_false])
    simp (config := {maxSteps := 1000000}) only [↓zvN, zvU, ↓up_apply, ↓hv_apply, ↓upO_some, ↓upO_none, ↓ev_tmp, ↓ev_const, ↓ev_func, ↓ev_global, init, Nat.reduceEqDiff, Nat.reduceAdd, Nat.reduceMul, Nat.reduceSub, ↓reduceIte, Int.reduceEq, Int.reduceNe, Nat.reduceLeDiff, one, Value.cells, Int.reduceLE, Int.reduceLT, Int.reduceToNat, add_mk, reduceCtorEq, List.mem_range'_1, true_and, and_true, and_false, false_and, Nat.reduceLT, Nat.reduceLeDiff, tyF, s1, s2, v1, v2, hpp, peq2]
    refine call_ok Try.call11 (table_less w5 q p hq hp) ?_
    rintro _ w6 ⟨rfl, hm6⟩
    have hm36 := hm35.trans hm6
    have v1 := ld hp b1 hm36
    have v3 := ld hr b3 hm36
    by_cases hx : plt p q
    · have hxt : decide (plt p q) = true := decide_eq_true hx
      have hyx : decide (plt q p) = false := decide_eq_false fun h => plt_irrefl p (plt_trans hx h)
      by_cases hy : plt q r
      · have hyt : decide (plt q r) = true := decide_eq_true hy
        simp (config := {maxSteps := 1000000}) only [↓zvN, zvU, ↓up_apply, ↓hv_apply, ↓upO_some, ↓upO_none, ↓ev_tmp, ↓ev_const, ↓ev_func, ↓ev_global, init, Nat.reduceEqDiff, Nat.reduceAdd, Nat.reduceMul, Nat.reduceSub, ↓reduceIte, Int.reduceEq, Int.reduceNe, Nat.reduceLeDiff, one, Value.cells, Int.reduceLE, Int.reduceLT, Int.reduceToNat, add_mk, reduceCtorEq, List.mem_range'_1, true_and, and_true, and_false, false_and, Nat.reduceLT, Nat.reduceLeDiff, tyF, s1, s2, v1, v3, hxt, hyx, hyt, tf, ft]
        refine call_ok Try.call11 (table_less w6 p r hp hr) ?_
        rintro _ w7 ⟨rfl, hm7⟩
        have hz : decide (plt p r) = true := decide_eq_true (plt_trans hx hy)
        simp (config := {maxSteps := 1000000}) only [↓zvN, zvU, ↓up_apply, ↓hv_apply, ↓upO_some, ↓upO_none, ↓ev_tmp, ↓ev_const, ↓ev_func, ↓ev_global, init, Nat.reduceEqDiff, Nat.reduceAdd, Nat.reduceMul, Nat.reduceSub, ↓reduceIte, Int.reduceEq, Int.reduceNe, Nat.reduceLeDiff, one, Value.cells, Int.reduceLE, Int.reduceLT, Int.reduceToNat, add_mk, reduceCtorEq, List.mem_range'_1, true_and, and_true, and_false, false_and, Nat.reduceLT, Nat.reduceLeDiff, tyF, hz]
        exact ⟨rfl, hm.trans (hm36.trans hm7)⟩
      · have hyt : decide (plt q r) = false := decide_eq_false hy
        simp (config := {maxSteps := 1000000}) only [↓zvN, zvU, ↓up_apply, ↓hv_apply, ↓upO_some, ↓upO_none, ↓ev_tmp, ↓ev_const, ↓ev_func, ↓ev_global, init, Nat.reduceEqDiff, Nat.reduceAdd, Nat.reduceMul, Nat.reduceSub, ↓reduceIte, Int.reduceEq, Int.reduceNe, Nat.reduceLeDiff, one, Value.cells, Int.reduceLE, Int.reduceLT, Int.reduceToNat, add_mk, reduceCtorEq, List.mem_range'_1, true_and, and_true, and_false, false_and, Nat.reduceLT, Nat.reduceLeDiff, tyF, s1, s2, v1, v3, hxt, hyx, hyt, tf, ft]
        exact ⟨rfl, hm.trans hm36⟩
    · have hxt : decide (plt p q) = false := decide_eq_false hx
      have hyx : decide (plt q p) = true := decide_eq_true ((plt_total (fun h => e h.symm)).2 hx)
      simp (config := {maxSteps := 1000000}) only [↓zvN, zvU, ↓up_apply, ↓hv_apply, ↓upO_some, ↓upO_none, ↓ev_tmp, ↓ev_const, ↓ev_func, ↓ev_global, init, Nat.reduceEqDiff, Nat.reduceAdd, Nat.reduceMul, Nat.reduceSub, ↓reduceIte, Int.reduceEq, Int.reduceNe, Nat.reduceLeDiff, one, Value.cells, Int.reduceLE, Int.reduceLT, Int.reduceToNat, add_mk, reduceCtorEq, List.mem_range'_1, true_and, and_true, and_false, false_and, Nat.reduceLT, Nat.reduceLeDiff, tyF, s1, s2, v1, v3, hxt, hyx, tf, ft]
      exact ⟨rfl, hm.trans hm36⟩
end Go.Proofs.Ytimhcjakpdebjaa
