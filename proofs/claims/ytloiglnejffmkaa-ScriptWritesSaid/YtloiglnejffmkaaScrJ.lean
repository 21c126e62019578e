/-
  Layer 31: operations as the document has them; alike.
-/
import Derived.Test.YtloiglnejffmkaaScrI
import Derived.Test.YtloiglnejffmkaaXt
import Derived.Test.YtloiglnejffmkaaCfgT
namespace Go.Proofs.Ytloiglnejffmkaa
open Go Go.RowKit Go.Proofs.RV
set_option linter.unusedSimpArgs false
set_option linter.unusedVariables false
set_option maxRecDepth 10000
set_option maxHeartbeats 4000000
theorem rop_all {o : SOp} (h : o.Fit) (A : Option Addr) (n c : Nat) (w0 : World) (K : Value → Prop) :
    pureP Try.prog (Instr.build 86 #[(0, .int .u8 o.kind), (1, .int .i64 o.t), (2, .agg #[.int .u64 o.d0, .int .u64 o.d1]), (3, .slice A n c), (4, .agg (o.key.map byteV).toArray), (5, .agg (.bool o.v6 :: o.addr.map byteV).toArray), (6, .agg (ints o.cfg).toArray)]) K = K (.agg (o.cells (.slice A n c)).toArray) := by
  have hk := h.key
  have ha := h.addr
  have hc := h.cfg
  have pl : PlacesOk (placeOf Try.prog 86) 0 0 ([[.int .u8 o.kind], [.int .i64 o.t], [.int .u64 o.d0, .int .u64 o.d1], [.slice A n c], o.key.map byteV, .bool o.v6 :: o.addr.map byteV, ints o.cfg]) := by
    simp only [PlacesOk, placeOf, Try.underlying86, List.getElem?_toArray, List.getElem?_cons_zero, List.getElem?_cons_succ, Option.map_some, cells5, cells2, cells81, cells22, cells82, cells61, cells84, List.length_map, List.length_cons, hk, ha, hc, ints_len, List.length_nil, Nat.reduceAdd, Nat.zero_add, and_self]
  have b := build_all (P := Try.prog) (T := 86) [.int .u8 o.kind, .int .i64 o.t, .agg #[.int .u64 o.d0, .int .u64 o.d1], .slice A n c, .agg (o.key.map byteV).toArray, .agg (.bool o.v6 :: o.addr.map byteV).toArray, .agg (ints o.cfg).toArray] (out := o.cells (.slice A n c)) (by kernel_rfl) zerROp pl
    (by simp [Value.cells, SOp.len (opZ_fit 0), hk, ha, hc, ints_len]) (by simp [Value.cells, SOp.cells]) w0 K
  simp only [pairs, Nat.zero_add, Nat.reduceAdd] at b
  exact b
theorem SOp.cPref {o : SOp} (h : o.Fit) (sl : Value) : ((o.cells sl).drop 21).take 8 = .bool o.v6 :: o.addr.map byteV := by
  have := mid_cut ([.int .u8 o.kind, .int .i64 o.t, .int .u64 o.d0, .int .u64 o.d1, sl] ++ o.key.map byteV) (.bool o.v6 :: o.addr.map byteV) (ints o.cfg) (i := 21) (n := 8) (by simp [h.key]) (by simp [h.addr])
  simpa [SOp.cells] using this
def OfJ (ms : List OpM) (w : World) (v3 v8 : Value) (w' : World) : Prop :=
  ∃ (k : Nat) (A : Option Addr) (c : Nat), v8 = .int .i64 k ∧ k ≤ ms.length ∧ v3 = .slice A k c ∧ Own w' w.heap.size 86 49 A k c ((ms.take k).flatMap OpM.cells) ∧ More w w'
theorem law31_of (w : World) (A : Option Addr) (ms : List OpM) (c : Nat) (hA : Cs w A (ms.flatMap OpM.cells)) (hO : OpsB w ms) (hl : ms.length ≤ 1000000) :
    Ret Try.prog 47 #[.slice A ms.length c] w fun v w' => ∃ A' c', v = .slice A' ms.length c' ∧ Own w' w.heap.size 86 49 A' ms.length c' (ms.flatMap OpM.cells) ∧ More w w' := by
  refine ret_of Try.func47 rfl (by kernel_rfl) (Nat.le_of_ble_eq_true (by kernel_rfl)) ?_
  have hE : ∀ m ∈ ms, m.cells.length = 49 := fun m hm => OpM.len (hO m hm).1
  simp (config := {maxSteps := 1000000}) only [↓zvN, zvU, ↓up_apply, ↓hv_apply, ↓upO_some, ↓upO_none, ↓ev_tmp, ↓ev_const, ↓ev_func, ↓ev_global, init, Nat.reduceEqDiff, Nat.reduceAdd, Nat.reduceMul, Nat.reduceSub, ↓reduceIte, Int.reduceEq, Int.reduceNe, Nat.reduceLeDiff, one, Value.cells, Int.reduceLE, Int.reduceLT, Int.reduceToNat, add_mk, reduceCtorEq, List.mem_range'_1, true_and, and_true, and_false, false_and, Nat.reduceLT, Nat.reduceLeDiff, tyF]
  refine loop_p (3 :: 4 :: 5 :: List.range' 8 27) (fun e w' => OfJ ms w (e 3) (e 8) w') (fun e _ => ms.length - (numOf (e 8)).toNat) ?_ ?_
  · exact ⟨0, none, 0, by simp only [hv_apply, up_apply, upO_some, upO_none, init, List.mem_cons, List.mem_range'_1, true_and, and_true, and_false, false_and, Nat.reduceLT, Nat.reduceLeDiff, Nat.reduceAdd, true_or, or_true, if_true, if_false, ↓reduceIte, Nat.reduceEqDiff, false_or, or_false, List.not_mem_nil, List.getElem?_cons_zero, List.getElem?_cons_succ, Option.getD_some] <;> rfl, by omega, by simp only [hv_apply, up_apply, upO_some, upO_none, init, List.mem_cons, List.mem_range'_1, true_and, and_true, and_false, false_and, Nat.reduceLT, Nat.reduceLeDiff, Nat.reduceAdd, true_or, or_true, if_true, if_false, ↓reduceIte, Nat.reduceEqDiff, false_or, or_false, List.not_mem_nil, List.getElem?_cons_zero, List.getElem?_cons_succ, Option.getD_some] <;> rfl, Own.nil _ _ _ _, More.refl _⟩
  rintro v w2 ⟨k, A2, c2, h8, hk, h3, ho2, hm2⟩
  simp only [hv_apply, up_apply, upO_some, upO_none, init, List.mem_cons, List.mem_range'_1, true_and, and_true, and_false, false_and, Nat.reduceLT, Nat.reduceLeDiff, Nat.reduceAdd, true_or, or_true, if_true, if_false, ↓reduceIte, Nat.reduceEqDiff, false_or, or_false, List.not_mem_nil, List.getElem?_cons_zero, List.getElem?_cons_succ, Option.getD_some] at h8 h3
  have ek : IntKind.i64.wrap ((k : Int) + 1) = ((k + 1 : Nat) : Int) := w64 (by omega) (by omega)
  simp (config := {maxSteps := 1000000}) only [↓zvN, zvU, ↓up_apply, ↓hv_apply, ↓upO_some, ↓upO_none, ↓ev_tmp, ↓ev_const, ↓ev_func, ↓ev_global, init, Nat.reduceEqDiff, Nat.reduceAdd, Nat.reduceMul, Nat.reduceSub, ↓reduceIte, Int.reduceEq, Int.reduceNe, Nat.reduceLeDiff, one, Value.cells, Int.reduceLE, Int.reduceLT, Int.reduceToNat, add_mk, reduceCtorEq, List.mem_range'_1, true_and, and_true, and_false, false_and, Nat.reduceLT, Nat.reduceLeDiff, tyF, h8, h3]
  refine ⟨fun h9 => ?_, fun h9 => ?_⟩
  · obtain ⟨m, hm⟩ := row_nat ms k (by omega)
    obtain ⟨a, rfl⟩ := hA.some_of (by rw [row_len ms hE]; omega)
    have hmm := List.mem_of_getElem? hm
    have hfit := (hO m hmm).1
    have rd := (hA.more hm2).rowEq hE hm
    have g0 : (0 : Int) ≤ (k : Int) := by omega
    have zOp := zerOp
    simp (config := {maxSteps := 1000000}) only [↓zvN, zvU, ↓up_apply, ↓hv_apply, ↓upO_some, ↓upO_none, ↓ev_tmp, ↓ev_const, ↓ev_func, ↓ev_global, init, Nat.reduceEqDiff, Nat.reduceAdd, Nat.reduceMul, Nat.reduceSub, ↓reduceIte, Int.reduceEq, Int.reduceNe, Nat.reduceLeDiff, one, Value.cells, Int.reduceLE, Int.reduceLT, Int.reduceToNat, add_mk, reduceCtorEq, List.mem_range'_1, true_and, and_true, and_false, false_and, Nat.reduceLT, Nat.reduceLeDiff, tyF, h8, h3, g0, h9, rd, Int.toNat_natCast, zOp]
    have hm3 := more_alloc w2 (.cells ((opZ 0).cells (.slice none 0 0)).toArray 159)
    have hb3 := Blk.new w2 159 ((opZ 0).cells (.slice none 0 0)).toArray
    have s3 := size_alloc w2 (.cells ((opZ 0).cells (.slice none 0 0)).toArray 159)
    generalize w2.alloc (.cells ((opZ 0).cells (.slice none 0 0)).toArray 159) = w3 at hm3 hb3 s3 ⊢
    rw [List.toList_toArray] at hb3
    refine st_all hb3 (by simp [OpM.cells, SOp.len hfit]) (SOp.len (opZ_fit 0) _) (fun u hu => SOp.one m.o (sl := .slice m.A m.o.b.length m.c) rfl u (by simpa [OpM.cells] using hu)) fun w4 j1 j2 => ?_
    rw [s2_undef]
    rw [List.toList_toArray] at j2
    have s4 := j1.size
    have hz2 := hm2.size
    have hm4 : More w w4 := j1.below (hm2.trans hm3) (by omega)
    have ho4 : Own w4 w.heap.size 86 49 A2 k c2 ((ms.take k).flatMap OpM.cells) := (ho2.more hm3).wr j1 (fun g hg => by have := ho2.atB_ge ⟨_, hg, rfl⟩; simp only at this; omega)
    have hL := SOp.len hfit (.slice m.A m.o.b.length m.c)
    have c0 : w4.cell? ⟨w2.heap.size, 0, none⟩ = some (.int .u8 m.o.kind) := by rw [j2.cell]; rfl
    have c1 : w4.cell? ⟨w2.heap.size, 1, none⟩ = some (.int .i64 m.o.t) := by rw [j2.cell]; rfl
    have c4 : w4.cell? ⟨w2.heap.size, 4, none⟩ = some (.slice m.A m.o.b.length m.c) := by rw [j2.cell]; rfl
    have r2 := j2.row_eq 2 2 (by rw [hE m hmm]; omega)
    rw [show (m.cells.drop 2).take 2 = [.int .u64 m.o.d0, .int .u64 m.o.d1] from rfl] at r2
    have r5 := j2.row_eq 5 16 (by rw [hE m hmm]; omega)
    rw [show (m.cells.drop 5).take 16 = m.o.key.map byteV from SOp.cKey hfit _] at r5
    have r21 := j2.row_eq 21 8 (by rw [hE m hmm]; omega)
    rw [show (m.cells.drop 21).take 8 = .bool m.o.v6 :: m.o.addr.map byteV from SOp.cPref hfit _] at r21
    have r29 := j2.row_eq 29 20 (by rw [hE m hmm]; omega)
    rw [show (m.cells.drop 29).take 20 = ints m.o.cfg from SOp.cCfg hfit _] at r29
    have bd := fun A n c K => rop_all hfit A n c w4 K
    simp (config := {maxSteps := 1000000}) only [↓zvN, zvU, ↓up_apply, ↓hv_apply, ↓upO_some, ↓upO_none, ↓ev_tmp, ↓ev_const, ↓ev_func, ↓ev_global, init, Nat.reduceEqDiff, Nat.reduceAdd, Nat.reduceMul, Nat.reduceSub, ↓reduceIte, Int.reduceEq, Int.reduceNe, Nat.reduceLeDiff, one, Value.cells, Int.reduceLE, Int.reduceLT, Int.reduceToNat, add_mk, reduceCtorEq, List.mem_range'_1, true_and, and_true, and_false, false_and, Nat.reduceLT, Nat.reduceLeDiff, tyF, h8, h3, c0, c1, c4, r2, r5, r21, r29, bd]
    refine bslice1 Try.underlying76 ropE (by omega) (by omega) hL ?_
    have hm6 := more_alloc w4 (.cells (m.o.cells (.slice m.A m.o.b.length m.c)).toArray 86)
    have hb6 := Blk.new w4 86 (m.o.cells (.slice m.A m.o.b.length m.c)).toArray
    have s6 := size_alloc w4 (.cells (m.o.cells (.slice m.A m.o.b.length m.c)).toArray 86)
    simp (config := {maxSteps := 1000000}) only [↓zvN, zvU, ↓up_apply, ↓hv_apply, ↓upO_some, ↓upO_none, ↓ev_tmp, ↓ev_const, ↓ev_func, ↓ev_global, init, Nat.reduceEqDiff, Nat.reduceAdd, Nat.reduceMul, Nat.reduceSub, ↓reduceIte, Int.reduceEq, Int.reduceNe, Nat.reduceLeDiff, one, Value.cells, Int.reduceLE, Int.reduceLT, Int.reduceToNat, add_mk, reduceCtorEq, List.mem_range'_1, true_and, and_true, and_false, false_and, Nat.reduceLT, Nat.reduceLeDiff, tyF, h8, h3]
    generalize w4.alloc (.cells (m.o.cells (.slice m.A m.o.b.length m.c)).toArray 86) = w6 at hm6 hb6 s6 ⊢
    rw [List.toList_toArray] at hb6
    refine app_mod (m := 1) (news := m.o.cells (.slice m.A m.o.b.length m.c)) Try.underlying76 ropE (show ((opZ 0).cells (.slice none 0 0)).length = 49 from SOp.len (opZ_fit 0) _) (by omega) (ho4.more hm6) hb6.cs (by rw [hL]) (SOp.one m.o (sl := .slice m.A m.o.b.length m.c) rfl) (by simp only [maxLen]; omega) (by omega) (by omega) ?_
    intro A7 c7 w7 ho7 hmod7 hat7
    have hm7 : More w w7 := Mod.more (hm4.trans hm6) hmod7 (fun k hk h => by have := ho4.atB_ge h; omega)
    simp (config := {maxSteps := 1000000}) only [↓zvN, zvU, ↓up_apply, ↓hv_apply, ↓upO_some, ↓upO_none, ↓ev_tmp, ↓ev_const, ↓ev_func, ↓ev_global, init, Nat.reduceEqDiff, Nat.reduceAdd, Nat.reduceMul, Nat.reduceSub, ↓reduceIte, Int.reduceEq, Int.reduceNe, Nat.reduceLeDiff, one, Value.cells, Int.reduceLE, Int.reduceLT, Int.reduceToNat, add_mk, reduceCtorEq, List.mem_range'_1, true_and, and_true, and_false, false_and, Nat.reduceLT, Nat.reduceLeDiff, tyF, h8, h3, ek]
    have hrow : (ms.take (k + 1)).flatMap OpM.cells = (ms.take k).flatMap OpM.cells ++ m.o.cells (.slice m.A m.o.b.length m.c) := by
      rw [List.take_add_one, hm]
      simp [OpM.cells]
    refine ⟨⟨?_, k + 1, A7, c7, rfl, by omega, rfl, by rw [hrow]; exact ho7, hm7⟩, by simp only [numOf]; omega⟩
    repeat (first | exact Same.hv _ _ _ | refine Same.up (by simp) ?_)
  · obtain rfl : k = ms.length := by omega
    rw [List.take_length] at ho2
    exact ⟨A2, c2, rfl, ho2, hm2⟩
open Classical in
theorem ref_same31 (w : World) (o : SOp) (hf : o.Fit) (A A' : Option Addr) (c c' : Nat) (hA : Bs w A o.b) (hA' : Bs w A' o.b) :
    Ret Try.prog 48 #[.agg (o.cells (.slice A o.b.length c)).toArray, .agg (o.cells (.slice A' o.b.length c')).toArray] w fun v w' => v = .bool true ∧ More w w' := by
  refine ret_of Try.func48 rfl (by kernel_rfl) (Nat.le_of_ble_eq_true (by kernel_rfl)) ?_
  have hm1 := more_alloc w (.cells (o.cells (.slice A o.b.length c)).toArray 86)
  have hb1 := Blk.new w 86 (o.cells (.slice A o.b.length c)).toArray
  have s1 := size_alloc w (.cells (o.cells (.slice A o.b.length c)).toArray 86)
  simp (config := {maxSteps := 1000000}) only [↓zvN, zvU, ↓up_apply, ↓hv_apply, ↓upO_some, ↓upO_none, ↓ev_tmp, ↓ev_const, ↓ev_func, ↓ev_global, init, Nat.reduceEqDiff, Nat.reduceAdd, Nat.reduceMul, Nat.reduceSub, ↓reduceIte, Int.reduceEq, Int.reduceNe, Nat.reduceLeDiff, one, Value.cells, Int.reduceLE, Int.reduceLT, Int.reduceToNat, add_mk, reduceCtorEq, List.mem_range'_1, true_and, and_true, and_false, false_and, Nat.reduceLT, Nat.reduceLeDiff, tyF]
  have hsz := s1
  generalize w.alloc (.cells (o.cells (.slice A o.b.length c)).toArray 86) = w1 at hm1 hb1 s1 ⊢
  have hm2 := more_alloc w1 (.cells (o.cells (.slice A' o.b.length c')).toArray 86)
  have hb2 := Blk.new w1 86 (o.cells (.slice A' o.b.length c')).toArray
  generalize w1.alloc (.cells (o.cells (.slice A' o.b.length c')).toArray 86) = w2 at hm2 hb2 ⊢
  rw [List.toList_toArray] at hb1 hb2
  rw [s1] at hb2
  replace hb1 := hb1.more hm2
  have hA2 := (hA.more hm1).more hm2
  have hA2' := (hA'.more hm1).more hm2
  generalize w.heap.size = p at hb1 hb2 hsz ⊢
  have c0 : w2.cell? ⟨p, 0, none⟩ = some (.int .u8 o.kind) := by rw [hb1.cell]; rfl
  have c1 : w2.cell? ⟨p, 1, none⟩ = some (.int .i64 o.t) := by rw [hb1.cell]; rfl
  have c4 : w2.cell? ⟨p, 4, none⟩ = some (.slice A o.b.length c) := by rw [hb1.cell]; rfl
  have d0 : w2.cell? ⟨p + 1, 0, none⟩ = some (.int .u8 o.kind) := by rw [hb2.cell]; rfl
  have d1 : w2.cell? ⟨p + 1, 1, none⟩ = some (.int .i64 o.t) := by rw [hb2.cell]; rfl
  have d4 : w2.cell? ⟨p + 1, 4, none⟩ = some (.slice A' o.b.length c') := by rw [hb2.cell]; rfl
  have r2 := hb1.row_eq 2 2 (by rw [SOp.len hf]; omega)
  rw [show ((o.cells (.slice A o.b.length c)).drop 2).take 2 = [.int .u64 o.d0, .int .u64 o.d1] from rfl] at r2
  have r5 := hb1.row_eq 5 16 (by rw [SOp.len hf]; omega)
  rw [SOp.cKey hf _] at r5
  have r21 := hb1.row_eq 21 8 (by rw [SOp.len hf]; omega)
  rw [SOp.cPref hf _] at r21
  have r29 := hb1.row_eq 29 20 (by rw [SOp.len hf]; omega)
  rw [SOp.cCfg hf _] at r29
  have t2 := hb2.row_eq 2 2 (by rw [SOp.len hf]; omega)
  rw [show ((o.cells (.slice A' o.b.length c')).drop 2).take 2 = [.int .u64 o.d0, .int .u64 o.d1] from rfl] at t2
  have t5 := hb2.row_eq 5 16 (by rw [SOp.len hf]; omega)
  rw [SOp.cKey hf _] at t5
  have t21 := hb2.row_eq 21 8 (by rw [SOp.len hf]; omega)
  rw [SOp.cPref hf _] at t21
  have t29 := hb2.row_eq 29 20 (by rw [SOp.len hf]; omega)
  rw [SOp.cCfg hf _] at t29
  have v2 := fun c K => conv_eq (S := 22) (D := 9) Try.underlying22 Try.underlying5 Try.underlying9 hA2 c K
  have v2' := fun c K => conv_eq (S := 22) (D := 9) Try.underlying22 Try.underlying5 Try.underlying9 hA2' c K
  have fd : Flat Try.prog 3 81 [.int .u64 o.d0, .int .u64 o.d1] := flat_ints (n := 1) (l := [o.d0, o.d1]) Try.underlying81 Try.underlying43 cells43 rfl
  have ed : ∀ ox oy K, pureP Try.prog (do eqGuard .eql 81 ox oy (.agg #[.int .u64 o.d0, .int .u64 o.d1]) (.agg #[.int .u64 o.d0, .int .u64 o.d1]); binOp .eql 81 (.agg #[.int .u64 o.d0, .int .u64 o.d1]) (.agg #[.int .u64 o.d0, .int .u64 o.d1])) K = K (.bool true) := fun ox oy K => by
    have := eql_flat (P := Try.prog) (T := 81) (n := 3) (by kernel_rfl) ⟨by unfold tv; rw [Try.underlying81], by unfold tv; rw [Try.underlying81]⟩ fd fd (by omega) w2 ox oy K
    rw [decide_eq_true rfl] at this
    exact this
  have ek : ∀ ox oy K, pureP Try.prog (do eqGuard .eql 82 ox oy (.agg (o.key.map byteV).toArray) (.agg (o.key.map byteV).toArray); binOp .eql 82 (.agg (o.key.map byteV).toArray) (.agg (o.key.map byteV).toArray)) K = K (.bool true) := fun ox oy K => by
    have := eql_bytes_eq (P := Try.prog) (T := 82) Try.underlying82 cells5 Try.underlying5 (by kernel_rfl) hf.key hf.key w2 ox oy K
    rw [decide_eq_true rfl] at this
    exact this
  have ep : ∀ ox oy K, pureP Try.prog (do eqGuard .eql 61 ox oy (.agg (.bool o.v6 :: o.addr.map byteV).toArray) (.agg (.bool o.v6 :: o.addr.map byteV).toArray); binOp .eql 61 (.agg (.bool o.v6 :: o.addr.map byteV).toArray) (.agg (.bool o.v6 :: o.addr.map byteV).toArray)) K = K (.bool true) := fun ox oy K => by
    have := pref_eq (a := ⟨o.v6, o.addr⟩) (b := ⟨o.v6, o.addr⟩) hf.addr hf.addr w2 ox oy K
    rw [decide_eq_true rfl] at this
    exact this
  have ec : ∀ ox oy K, pureP Try.prog (do eqGuard .eql 84 ox oy (.agg (ints o.cfg).toArray) (.agg (ints o.cfg).toArray); binOp .eql 84 (.agg (ints o.cfg).toArray) (.agg (ints o.cfg).toArray)) K = K (.bool true) := fun ox oy K => by
    have := eql_flat (P := Try.prog) (T := 84) (n := 2) (by kernel_rfl) ⟨by unfold tv; rw [Try.underlying84], by unfold tv; rw [Try.underlying84]⟩ (cfg_flat hf.cfg).2 (cfg_flat hf.cfg).2 (by omega) w2 ox oy K
    rw [decide_eq_true rfl] at this
    exact this
  simp (config := {maxSteps := 1000000}) only [↓zvN, zvU, ↓up_apply, ↓hv_apply, ↓upO_some, ↓upO_none, ↓ev_tmp, ↓ev_const, ↓ev_func, ↓ev_global, init, Nat.reduceEqDiff, Nat.reduceAdd, Nat.reduceMul, Nat.reduceSub, ↓reduceIte, Int.reduceEq, Int.reduceNe, Nat.reduceLeDiff, one, Value.cells, Int.reduceLE, Int.reduceLT, Int.reduceToNat, add_mk, reduceCtorEq, List.mem_range'_1, true_and, and_true, and_false, false_and, Nat.reduceLT, Nat.reduceLeDiff, tyF, hsz, c0, d0, c1, d1, r2, t2, ed, c4, d4, v2, v2', beq_self_eq_true, r5, t5, ek, r21, t21, ep, r29, t29, ec]
  exact hm1.trans hm2
end Go.Proofs.Ytloiglnejffmkaa
