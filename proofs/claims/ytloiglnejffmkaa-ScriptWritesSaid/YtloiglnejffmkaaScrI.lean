/-
  Layer 31: the reference's Encode.
-/
import Derived.Test.YtloiglnejffmkaaScrH
import Derived.Test.YtloiglnejffmkaaXt
namespace Go.Proofs.Ytloiglnejffmkaa
open Go Go.RowKit Go.Proofs.RV
set_option linter.unusedSimpArgs false
set_option linter.unusedVariables false
set_option maxRecDepth 10000
set_option maxHeartbeats 4000000
/-- bytes that are put together beside a variable p -/
structure RowS (w0 : World) (p e : Nat) (cs : List Value) (w : World) (A : Option Addr) (c : Nat) (l : List UInt8) : Prop where
  own : Own w w0.heap.size 5 1 A l.length c (l.map byteV)
  ne : ∀ x, atB A x → x ≠ p
  blk : Blk w p e cs
  more : More w0 w
theorem RowS.mono {w0 w w' : World} {p e c : Nat} {cs : List Value} {A : Option Addr} {l : List UInt8} (h : RowS w0 p e cs w A c l) (hm : More w w') : RowS w0 p e cs w' A c l := ⟨h.own.more hm, h.ne, h.blk.more hm, h.more.trans hm⟩
theorem RowS.app {w0 w : World} {p e c m c2 ty : Nat} {cs : List Value} {A A2 : Option Addr} {l r : List UInt8} {K : Value → World → Prop} (h : RowS w0 p e cs w A c l) (hr : Bs w A2 r) (hm : r.length = m) (hl : l.length ≤ 3000000) (hl2 : m ≤ 1000000)
    (hK : ∀ A' c' w', RowS w0 p e cs w' A' c' (l ++ r) → Mod (atB A) w w' → (∀ x, x < w0.heap.size → ¬ atB A x) → K (.slice A' (l ++ r).length c') w') :
    runP Try.prog (Builtin.append_ #[22, 22] ty #[.slice A l.length c, .slice A2 m c2]) w K := by
  have hz := h.more.size
  refine app_mod (m := m) Try.underlying22 byteE rfl (by omega) h.own hr (by rw [List.length_map, hm, Nat.mul_one]) (byteV_one _) (by simp only [maxLen]; omega) (by omega) hz ?_
  intro A' c' w' ho hmd hat
  have hge : ∀ x, x < w0.heap.size → ¬ atB A x := fun x hx hh => by have := h.own.atB_ge hh; omega
  have hb := hmd.blk h.blk (fun hh => h.ne p hh rfl)
  have := hK A' c' w' ⟨by rw [List.length_append, hm, List.map_append]; exact ho, ?_, hb, Mod.more h.more hmd hge⟩ hmd hge
  · rw [List.length_append, hm] at this
    exact this
  · intro x hx
    rcases hat x hx with h1 | h1
    · exact h.ne x h1
    · have := h.blk.lt
      omega
theorem RowS.keep {w0 a w w' : World} {p e c : Nat} {cs : List Value} {A : Option Addr} {l : List UInt8} (h : RowS w0 p e cs w A c l) (hk : KeepF w0.heap.size (fun x => x = p) a w) (hm : Mod (atB A) w w') (hg : ∀ x, x < w0.heap.size → ¬ atB A x) : KeepF w0.heap.size (fun x => x = p) a w' :=
  hk.next hm (by rintro x rfl hh; exact h.ne _ hh rfl) hg (by rintro x rfl; exact h.blk.lt) h.more.size
def REncR (os : List SOp) (w : World) (v : Value) (w' : World) : Prop :=
  More w w' ∧ (encM os = none → v = .tuple #[.slice none 0 0, .bool false]) ∧
    ∀ l, encM os = some l → ∃ A c, v = .tuple #[.slice A l.length c, .bool true] ∧ Own w' w.heap.size 5 1 A l.length c (l.map byteV)
def EncRJ (os : List SOp) (w : World) (v4 v10 : Value) (w' : World) : Prop :=
  ∃ (k : Nat) (A : Option Addr) (c : Nat), v10 = .int .i64 k ∧ k ≤ os.length ∧ v4 = .slice A ((os.take k).flatMap putM).length c ∧ Own w' w.heap.size 5 1 A ((os.take k).flatMap putM).length c (((os.take k).flatMap putM).map byteV) ∧ (∀ o ∈ os.take k, okM o) ∧ More w w'
theorem ref_encode31 (w : World) (A : Option Addr) (ms : List OpM) (c : Nat) (hA : Cs w A (ms.flatMap OpM.cells)) (hO : OpsB w ms) (hN : ∀ m ∈ ms, m.o.Num) (hl : ms.length ≤ 30) :
    Ret Try.prog 50 #[.slice A ms.length c] w (REncR (ms.map OpM.o) w) := by
  refine ret_of Try.func50 rfl (by kernel_rfl) (Nat.le_of_ble_eq_true (by kernel_rfl)) ?_
  have hE : ∀ m ∈ ms, m.cells.length = 49 := fun m hm => OpM.len (hO m hm).1
  simp (config := {maxSteps := 1000000}) only [↓zvN, zvU, ↓up_apply, ↓hv_apply, ↓upO_some, ↓upO_none, ↓ev_tmp, ↓ev_const, ↓ev_func, ↓ev_global, init, Nat.reduceEqDiff, Nat.reduceAdd, Nat.reduceMul, Nat.reduceSub, ↓reduceIte, Int.reduceEq, Int.reduceNe, Nat.reduceLeDiff, one, Value.cells, Int.reduceLE, Int.reduceLT, Int.reduceToNat, add_mk, reduceCtorEq, List.mem_range'_1, true_and, and_true, and_false, false_and, Nat.reduceLT, Nat.reduceLeDiff, tyF]
  refine loop_p (4 :: 5 :: 6 :: 7 :: 10 :: List.range' 11 84) (fun e w' => EncRJ (ms.map OpM.o) w (e 4) (e 10) w') (fun e _ => ms.length - (numOf (e 10)).toNat) ?_ ?_
  · exact ⟨0, none, 0, by simp only [hv_apply, up_apply, upO_some, upO_none, init, List.mem_cons, List.mem_range'_1, true_and, and_true, and_false, false_and, Nat.reduceLT, Nat.reduceLeDiff, Nat.reduceAdd, true_or, or_true, if_true, if_false, ↓reduceIte, Nat.reduceEqDiff, false_or, or_false, List.not_mem_nil, List.getElem?_cons_zero, List.getElem?_cons_succ, Option.getD_some] <;> rfl, by omega, by simp only [hv_apply, up_apply, upO_some, upO_none, init, List.mem_cons, List.mem_range'_1, true_and, and_true, and_false, false_and, Nat.reduceLT, Nat.reduceLeDiff, Nat.reduceAdd, true_or, or_true, if_true, if_false, ↓reduceIte, Nat.reduceEqDiff, false_or, or_false, List.not_mem_nil, List.getElem?_cons_zero, List.getElem?_cons_succ, Option.getD_some] <;> rfl, Own.nil _ _ _ _, (fun o ho => by cases ho), More.refl _⟩
  rintro v w2 ⟨k, A2, c2, h10, hk, h4, ho2, hok, hm2⟩
  simp only [hv_apply, up_apply, upO_some, upO_none, init, List.mem_cons, List.mem_range'_1, true_and, and_true, and_false, false_and, Nat.reduceLT, Nat.reduceLeDiff, Nat.reduceAdd, true_or, or_true, if_true, if_false, ↓reduceIte, Nat.reduceEqDiff, false_or, or_false, List.not_mem_nil, List.getElem?_cons_zero, List.getElem?_cons_succ, Option.getD_some] at h10 h4
  rw [List.length_map] at hk
  have ek : IntKind.i64.wrap ((k : Int) + 1) = ((k + 1 : Nat) : Int) := w64 (by omega) (by omega)
  simp (config := {maxSteps := 1000000}) only [↓zvN, zvU, ↓up_apply, ↓hv_apply, ↓upO_some, ↓upO_none, ↓ev_tmp, ↓ev_const, ↓ev_func, ↓ev_global, init, Nat.reduceEqDiff, Nat.reduceAdd, Nat.reduceMul, Nat.reduceSub, ↓reduceIte, Int.reduceEq, Int.reduceNe, Nat.reduceLeDiff, one, Value.cells, Int.reduceLE, Int.reduceLT, Int.reduceToNat, add_mk, reduceCtorEq, List.mem_range'_1, true_and, and_true, and_false, false_and, Nat.reduceLT, Nat.reduceLeDiff, tyF, h10, h4]
  refine ⟨fun h8 => ?_, fun h8 => ?_⟩
  · obtain ⟨m, hm⟩ := row_nat ms k (by omega)
    obtain ⟨a, rfl⟩ := hA.some_of (by rw [row_len ms hE]; omega)
    have hmm := List.mem_of_getElem? hm
    have hfit := (hO m hmm).1
    have hnum := hN m hmm
    have hbb := (hO m hmm).2.1
    have rd := (hA.more hm2).rowEq hE hm
    have g0 : (0 : Int) ≤ (k : Int) := by omega
    have zOp := zerROp
    simp (config := {maxSteps := 1000000}) only [↓zvN, zvU, ↓up_apply, ↓hv_apply, ↓upO_some, ↓upO_none, ↓ev_tmp, ↓ev_const, ↓ev_func, ↓ev_global, init, Nat.reduceEqDiff, Nat.reduceAdd, Nat.reduceMul, Nat.reduceSub, ↓reduceIte, Int.reduceEq, Int.reduceNe, Nat.reduceLeDiff, one, Value.cells, Int.reduceLE, Int.reduceLT, Int.reduceToNat, add_mk, reduceCtorEq, List.mem_range'_1, true_and, and_true, and_false, false_and, Nat.reduceLT, Nat.reduceLeDiff, tyF, h10, h4, g0, h8, rd, Int.toNat_natCast, zOp]
    have hm3 := more_alloc w2 (.cells ((opZ 0).cells (.slice none 0 0)).toArray 86)
    have hb3 := Blk.new w2 86 ((opZ 0).cells (.slice none 0 0)).toArray
    have s3 := size_alloc w2 (.cells ((opZ 0).cells (.slice none 0 0)).toArray 86)
    generalize w2.alloc (.cells ((opZ 0).cells (.slice none 0 0)).toArray 86) = w3 at hm3 hb3 s3 ⊢
    rw [List.toList_toArray] at hb3
    refine st_all hb3 (by simp [OpM.cells, SOp.len hfit]) (SOp.len (opZ_fit 0) _) (fun u hu => SOp.one m.o (sl := .slice m.A m.o.b.length m.c) rfl u (by simpa [OpM.cells] using hu)) fun w4 j1 j2 => ?_
    rw [s2_undef]
    rw [List.toList_toArray] at j2
    have s4 := j1.size
    have hz2 := hm2.size
    have hm4 : More w w4 := j1.below (hm2.trans hm3) (by omega)
    have hle := putsM_len ((ms.map OpM.o).take k) (fun o ho => by
      obtain ⟨m', hm', rfl⟩ := List.mem_map.1 (List.mem_of_mem_take ho)
      exact (hO m' hm').1) hok
    have hl30 : ((ms.map OpM.o).take k).length ≤ 29 := by rw [List.length_take]; omega
    have h0 : RowS w w2.heap.size 86 (m.o.cells (.slice m.A m.o.b.length m.c)) w4 A2 c2 (((ms.map OpM.o).take k).flatMap putM) :=
      ⟨(ho2.more hm3).wr j1 (fun g hg => by have := ho2.atB_ge ⟨_, hg, rfl⟩; simp only at this; omega), (fun x hx => by have := ho2.atB_ge hx; omega), j2, hm4⟩
    have hget : (ms.map OpM.o)[k]? = some m.o := by simp [hm]
    have hstep0 : (ms.map OpM.o).take (k + 1) = (ms.map OpM.o).take k ++ [m.o] := by
      rw [List.take_add_one, hget]
      rfl
    have hput : ((ms.map OpM.o).take (k + 1)).flatMap putM = ((ms.map OpM.o).take k).flatMap putM ++ putM m.o := by rw [hstep0]; simp
    have hstep : okM m.o → ∀ o ∈ (ms.map OpM.o).take (k + 1), okM o := by
      rw [hstep0]
      intro hp o ho
      rcases List.mem_append.1 ho with h | h
      · exact hok o h
      · rw [List.mem_singleton.1 h]; exact hp
    have hll : (((ms.map OpM.o).take k).flatMap putM).length ≤ 1901066 := by omega
    clear hstep0 hok ho2 hget hb3 hle hl30
    generalize ((ms.map OpM.o).take k).flatMap putM = l at *
    generalize hpp : w2.heap.size = p at *
    have c0 : w4.cell? ⟨p, 0, none⟩ = some (.int .u8 m.o.kind) := by rw [h0.blk.cell]; rfl
    simp (config := {maxSteps := 1000000}) only [↓zvN, zvU, ↓up_apply, ↓hv_apply, ↓upO_some, ↓upO_none, ↓ev_tmp, ↓ev_const, ↓ev_func, ↓ev_global, init, Nat.reduceEqDiff, Nat.reduceAdd, Nat.reduceMul, Nat.reduceSub, ↓reduceIte, Int.reduceEq, Int.reduceNe, Nat.reduceLeDiff, one, Value.cells, Int.reduceLE, Int.reduceLT, Int.reduceToNat, add_mk, reduceCtorEq, List.mem_range'_1, true_and, and_true, and_false, false_and, Nat.reduceLT, Nat.reduceLeDiff, tyF, h10, h4, c0]
    refine bslice (z := .int .u8 0) (cells := #[.int .u8 m.o.kind]) Try.underlying22 byteE (by omega) (by have := bcells_list (z := .int .u8 0) [.int .u8 m.o.kind] (by intro v hv; simp at hv; subst hv; rfl); exact this) ?_
    have hm5 := more_alloc w4 (.cells #[.int .u8 m.o.kind] 5)
    have hb5 := Blk.new w4 5 #[.int .u8 m.o.kind]
    simp (config := {maxSteps := 1000000}) only [↓zvN, zvU, ↓up_apply, ↓hv_apply, ↓upO_some, ↓upO_none, ↓ev_tmp, ↓ev_const, ↓ev_func, ↓ev_global, init, Nat.reduceEqDiff, Nat.reduceAdd, Nat.reduceMul, Nat.reduceSub, ↓reduceIte, Int.reduceEq, Int.reduceNe, Nat.reduceLeDiff, one, Value.cells, Int.reduceLE, Int.reduceLT, Int.reduceToNat, add_mk, reduceCtorEq, List.mem_range'_1, true_and, and_true, and_false, false_and, Nat.reduceLT, Nat.reduceLeDiff, tyF, h10, h4]
    generalize w4.alloc (.cells #[.int .u8 m.o.kind] 5) = w5 at hm5 hb5 ⊢
    have hk8 : byteV (u8 m.o.kind) = .int .u8 m.o.kind := byteV_u8 hnum.k0 hnum.k1
    have hc5 : Bs w5 (some ⟨w4.heap.size, 0, none⟩) [u8 m.o.kind] := by
      have := hb5.cs
      rw [List.toList_toArray] at this
      show Cs _ _ [byteV (u8 m.o.kind)]
      rw [hk8]
      exact this
    refine RowS.app ((h0.mono hm5)) (hc5) (rfl) (by omega) (by omega) ?_
    intro A6 c6 w6 h6 mw6 gw6
    have l6 : (l ++ [u8 m.o.kind]).length = l.length + 1 := by simp
    have hput6 : l ++ putM m.o = l ++ [u8 m.o.kind] ++ tailM m.o := by simp [putM]
    rw [hput6] at hput
    generalize l ++ [u8 m.o.kind] = lk at *
    have c06 : w6.cell? ⟨p, 0, none⟩ = some (.int .u8 m.o.kind) := by rw [h6.blk.cell]; rfl
    by_cases k1 : m.o.kind = 1
    · rw [k1] at c06
      have c1 : w6.cell? ⟨p, 1, none⟩ = some (.int .i64 m.o.t) := by rw [h6.blk.cell]; rfl
      simp (config := {maxSteps := 1000000}) only [↓zvN, zvU, ↓up_apply, ↓hv_apply, ↓upO_some, ↓upO_none, ↓ev_tmp, ↓ev_const, ↓ev_func, ↓ev_global, init, Nat.reduceEqDiff, Nat.reduceAdd, Nat.reduceMul, Nat.reduceSub, ↓reduceIte, Int.reduceEq, Int.reduceNe, Nat.reduceLeDiff, one, Value.cells, Int.reduceLE, Int.reduceLT, Int.reduceToNat, add_mk, reduceCtorEq, List.mem_range'_1, true_and, and_true, and_false, false_and, Nat.reduceLT, Nat.reduceLeDiff, tyF, h10, h4, c06, c1]
      refine call_ok Try.call25 (ref_number w6 _ 8 (wrapu_nonneg _) (by omega)) ?_
      rintro _ w7 ⟨A7, c7, rfl, ho7, hm7⟩
      rw [numB_len] at ho7 ⊢
      simp (config := {maxSteps := 1000000}) only [↓zvN, zvU, ↓up_apply, ↓hv_apply, ↓upO_some, ↓upO_none, ↓ev_tmp, ↓ev_const, ↓ev_func, ↓ev_global, init, Nat.reduceEqDiff, Nat.reduceAdd, Nat.reduceMul, Nat.reduceSub, ↓reduceIte, Int.reduceEq, Int.reduceNe, Nat.reduceLeDiff, one, Value.cells, Int.reduceLE, Int.reduceLT, Int.reduceToNat, add_mk, reduceCtorEq, List.mem_range'_1, true_and, and_true, and_false, false_and, Nat.reduceLT, Nat.reduceLeDiff, tyF, h10, h4]
      refine RowS.app ((h6.mono hm7)) ((ho7.cs)) ((numB_len _ _)) (by omega) (by omega) ?_
      intro A8 c8 w8 h8' mw8 gw8
      have hF := h8'
      have hokk : okM m.o := (by unfold okM; simp [k1])
      try simp (config := {maxSteps := 1000000}) only [↓zvN, zvU, ↓up_apply, ↓hv_apply, ↓upO_some, ↓upO_none, ↓ev_tmp, ↓ev_const, ↓ev_func, ↓ev_global, init, Nat.reduceEqDiff, Nat.reduceAdd, Nat.reduceMul, Nat.reduceSub, ↓reduceIte, Int.reduceEq, Int.reduceNe, Nat.reduceLeDiff, one, Value.cells, Int.reduceLE, Int.reduceLT, Int.reduceToNat, add_mk, reduceCtorEq, List.mem_range'_1, true_and, and_true, and_false, false_and, Nat.reduceLT, Nat.reduceLeDiff, tyF, h10, h4, ek]
      have heq : ((ms.map OpM.o).take (k + 1)).flatMap putM = lk ++ numB (IntKind.u64.wrap m.o.t) 8 := (hput).trans (by simp [tailM, k1])
      refine ⟨⟨?_, k + 1, _, _, rfl, by rw [List.length_map]; omega, by rw [heq], by rw [heq]; exact hF.own, hstep hokk, hF.more⟩, by simp only [numOf]; omega⟩
      repeat (first | exact Same.hv _ _ _ | refine Same.up (by simp) ?_)
    have hp6 := h6.blk.lt
    have hw6 := h6.more.size
    by_cases k2 : m.o.kind = 2
    · rw [k2] at c06
      have c4 : w6.cell? ⟨p, 4, none⟩ = some (.slice m.A m.o.b.length m.c) := by rw [h6.blk.cell]; rfl
      by_cases hb : m.o.b.length ≤ 65535
      rotate_left
      · have hb' : (65535 : Int) < (m.o.b.length : Int) := by omega
        simp (config := {maxSteps := 1000000}) only [↓zvN, zvU, ↓up_apply, ↓hv_apply, ↓upO_some, ↓upO_none, ↓ev_tmp, ↓ev_const, ↓ev_func, ↓ev_global, init, Nat.reduceEqDiff, Nat.reduceAdd, Nat.reduceMul, Nat.reduceSub, ↓reduceIte, Int.reduceEq, Int.reduceNe, Nat.reduceLeDiff, one, Value.cells, Int.reduceLE, Int.reduceLT, Int.reduceToNat, add_mk, reduceCtorEq, List.mem_range'_1, true_and, and_true, and_false, false_and, Nat.reduceLT, Nat.reduceLeDiff, tyF, h10, h4, c06, c4, hb']
        try simp (config := {maxSteps := 1000000}) only [↓zvN, zvU, ↓up_apply, ↓hv_apply, ↓upO_some, ↓upO_none, ↓ev_tmp, ↓ev_const, ↓ev_func, ↓ev_global, init, Nat.reduceEqDiff, Nat.reduceAdd, Nat.reduceMul, Nat.reduceSub, ↓reduceIte, Int.reduceEq, Int.reduceNe, Nat.reduceLeDiff, one, Value.cells, Int.reduceLE, Int.reduceLT, Int.reduceToNat, add_mk, reduceCtorEq, List.mem_range'_1, true_and, and_true, and_false, false_and, Nat.reduceLT, Nat.reduceLeDiff, tyF, h10, h4]
        have hbk : ¬ okM m.o := (by unfold okM; simp only [k2, if_true]; exact hb)
        have hnone : encM (ms.map OpM.o) = none := by
          unfold encM
          rw [if_neg (fun h => hbk (h m.o (List.mem_map.2 ⟨m, hmm, rfl⟩)))]
        exact ⟨h6.more, fun _ => rfl, fun l h => by rw [hnone] at h; cases h⟩
      have hb' : ¬ (65535 : Int) < (m.o.b.length : Int) := by omega
      simp (config := {maxSteps := 1000000}) only [↓zvN, zvU, ↓up_apply, ↓hv_apply, ↓upO_some, ↓upO_none, ↓ev_tmp, ↓ev_const, ↓ev_func, ↓ev_global, init, Nat.reduceEqDiff, Nat.reduceAdd, Nat.reduceMul, Nat.reduceSub, ↓reduceIte, Int.reduceEq, Int.reduceNe, Nat.reduceLeDiff, one, Value.cells, Int.reduceLE, Int.reduceLT, Int.reduceToNat, add_mk, reduceCtorEq, List.mem_range'_1, true_and, and_true, and_false, false_and, Nat.reduceLT, Nat.reduceLeDiff, tyF, h10, h4, c06, c4, hb']
      refine draw_line w.heap.size (KeepF w.heap.size (fun x => x = p)) [0, 0, 0, 2, 1, 1, 0, 0, 2, 1, 1, 0] [[], [], [1], [1, 2], [1, 2, 3], [0, 1, 2, 3, 4], [], [6], [6, 7], [0, 1, 2, 3, 4, 5, 6, 7, 8], [0, 1, 2, 3, 4, 5, 6, 7, 8, 9], [0, 1, 2, 3, 4, 5, 6, 7, 8, 9, 10]] mixed (by kernel_rfl) (by kernel_rfl) (KeepF.refl _ _ _) (fun w' h => KeepF.of_more h hw6 (by rintro x rfl; exact hp6)) (fun w' h => h.1) ?_
      intro w7 hm7
      have h7 := h6.mono hm7
      have k7 := KeepF.of_more (F := fun x => x = p) hm7 hw6 (by rintro x rfl; exact hp6)
      simp (config := {maxSteps := 1000000}) only [↓zvN, zvU, ↓zqD, ↓sk_nil, ↓sk_cons, ↓sk_guard, ↓sk_zero, ↓sk_one, ↓sk_two, ↓up_apply, ↓hv_apply, ↓upO_some, ↓upO_none, ↓ev_tmp, ↓ev_const, ↓ev_func, ↓ev_global, init, Nat.reduceEqDiff, Nat.reduceAdd, Nat.reduceMul, Nat.reduceSub, ↓reduceIte, Int.reduceEq, Int.reduceNe, Nat.reduceLeDiff, one, Value.cells, Int.reduceLE, Int.reduceLT, Int.reduceToNat, add_mk, reduceCtorEq, List.mem_range'_1, true_and, and_true, and_false, false_and, Nat.reduceLT, Nat.reduceLeDiff, tyF, h10, h4]
      refine read_ok (.int .u64 m.o.d0) rfl (fun wr hkr => ?_) ?_
      · have cr := (hkr.blk rfl h6.blk).cell 2
        have cr : wr.cell? ⟨p, 2, none⟩ = some (.int .u64 m.o.d0) := cr
        try simp (config := {maxSteps := 1000000}) only [↓zvN, zvU, ↓zqD, ↓sk_nil, ↓sk_cons, ↓sk_guard, ↓sk_zero, ↓sk_one, ↓sk_two, ↓up_apply, ↓hv_apply, ↓upO_some, ↓upO_none, ↓ev_tmp, ↓ev_const, ↓ev_func, ↓ev_global, init, Nat.reduceEqDiff, Nat.reduceAdd, Nat.reduceMul, Nat.reduceSub, ↓reduceIte, Int.reduceEq, Int.reduceNe, Nat.reduceLeDiff, one, Value.cells, Int.reduceLE, Int.reduceLT, Int.reduceToNat, add_mk, reduceCtorEq, List.mem_range'_1, true_and, and_true, and_false, false_and, Nat.reduceLT, Nat.reduceLeDiff, tyF, cr]
        try exact ⟨rfl, rfl⟩
      try simp (config := {maxSteps := 1000000}) only [↓zvN, zvU, ↓zqD, ↓sk_nil, ↓sk_cons, ↓sk_guard, ↓sk_zero, ↓sk_one, ↓sk_two, ↓up_apply, ↓hv_apply, ↓upO_some, ↓upO_none, ↓ev_tmp, ↓ev_const, ↓ev_func, ↓ev_global, init, Nat.reduceEqDiff, Nat.reduceAdd, Nat.reduceMul, Nat.reduceSub, ↓reduceIte, Int.reduceEq, Int.reduceNe, Nat.reduceLeDiff, one, Value.cells, Int.reduceLE, Int.reduceLT, Int.reduceToNat, add_mk, reduceCtorEq, List.mem_range'_1, true_and, and_true, and_false, false_and, Nat.reduceLT, Nat.reduceLeDiff, tyF]
      refine call_ok Try.call25 (ref_number w7 m.o.d0 8 hnum.d0 (by omega)) ?_
      rintro _ w8 ⟨A8, c8, rfl, o8, qw8⟩
      rw [numB_len] at o8 ⊢
      have h8' := RowS.mono h7 qw8
      have k8 := KeepF.more k7 qw8 (by rintro x rfl; exact (h7).blk.lt) (h7).more.size
      try simp (config := {maxSteps := 1000000}) only [↓zvN, zvU, ↓zqD, ↓sk_nil, ↓sk_cons, ↓sk_guard, ↓sk_zero, ↓sk_one, ↓sk_two, ↓up_apply, ↓hv_apply, ↓upO_some, ↓upO_none, ↓ev_tmp, ↓ev_const, ↓ev_func, ↓ev_global, init, Nat.reduceEqDiff, Nat.reduceAdd, Nat.reduceMul, Nat.reduceSub, ↓reduceIte, Int.reduceEq, Int.reduceNe, Nat.reduceLeDiff, one, Value.cells, Int.reduceLE, Int.reduceLT, Int.reduceToNat, add_mk, reduceCtorEq, List.mem_range'_1, true_and, and_true, and_false, false_and, Nat.reduceLT, Nat.reduceLeDiff, tyF]
      refine ⟨k8, ?_⟩
      try simp (config := {maxSteps := 1000000}) only [↓zvN, zvU, ↓zqD, ↓sk_nil, ↓sk_cons, ↓sk_guard, ↓sk_zero, ↓sk_one, ↓sk_two, ↓up_apply, ↓hv_apply, ↓upO_some, ↓upO_none, ↓ev_tmp, ↓ev_const, ↓ev_func, ↓ev_global, init, Nat.reduceEqDiff, Nat.reduceAdd, Nat.reduceMul, Nat.reduceSub, ↓reduceIte, Int.reduceEq, Int.reduceNe, Nat.reduceLeDiff, one, Value.cells, Int.reduceLE, Int.reduceLT, Int.reduceToNat, add_mk, reduceCtorEq, List.mem_range'_1, true_and, and_true, and_false, false_and, Nat.reduceLT, Nat.reduceLeDiff, tyF]
      refine RowS.app (h8') ((o8.cs)) ((numB_len _ _)) (by omega) (by omega) ?_
      intro A9 c9 w9 h9 mw9 gw9
      have k9 := RowS.keep h8' k8 mw9 gw9
      try simp (config := {maxSteps := 1000000}) only [↓zvN, zvU, ↓zqD, ↓sk_nil, ↓sk_cons, ↓sk_guard, ↓sk_zero, ↓sk_one, ↓sk_two, ↓up_apply, ↓hv_apply, ↓upO_some, ↓upO_none, ↓ev_tmp, ↓ev_const, ↓ev_func, ↓ev_global, init, Nat.reduceEqDiff, Nat.reduceAdd, Nat.reduceMul, Nat.reduceSub, ↓reduceIte, Int.reduceEq, Int.reduceNe, Nat.reduceLeDiff, one, Value.cells, Int.reduceLE, Int.reduceLT, Int.reduceToNat, add_mk, reduceCtorEq, List.mem_range'_1, true_and, and_true, and_false, false_and, Nat.reduceLT, Nat.reduceLeDiff, tyF]
      refine ⟨k9, ?_⟩
      try simp (config := {maxSteps := 1000000}) only [↓zvN, zvU, ↓zqD, ↓sk_nil, ↓sk_cons, ↓sk_guard, ↓sk_zero, ↓sk_one, ↓sk_two, ↓up_apply, ↓hv_apply, ↓upO_some, ↓upO_none, ↓ev_tmp, ↓ev_const, ↓ev_func, ↓ev_global, init, Nat.reduceEqDiff, Nat.reduceAdd, Nat.reduceMul, Nat.reduceSub, ↓reduceIte, Int.reduceEq, Int.reduceNe, Nat.reduceLeDiff, one, Value.cells, Int.reduceLE, Int.reduceLT, Int.reduceToNat, add_mk, reduceCtorEq, List.mem_range'_1, true_and, and_true, and_false, false_and, Nat.reduceLT, Nat.reduceLeDiff, tyF]
      refine read_ok (.int .u64 m.o.d1) rfl (fun wr hkr => ?_) ?_
      · have cr := (hkr.blk rfl h6.blk).cell 3
        have cr : wr.cell? ⟨p, 3, none⟩ = some (.int .u64 m.o.d1) := cr
        try simp (config := {maxSteps := 1000000}) only [↓zvN, zvU, ↓zqD, ↓sk_nil, ↓sk_cons, ↓sk_guard, ↓sk_zero, ↓sk_one, ↓sk_two, ↓up_apply, ↓hv_apply, ↓upO_some, ↓upO_none, ↓ev_tmp, ↓ev_const, ↓ev_func, ↓ev_global, init, Nat.reduceEqDiff, Nat.reduceAdd, Nat.reduceMul, Nat.reduceSub, ↓reduceIte, Int.reduceEq, Int.reduceNe, Nat.reduceLeDiff, one, Value.cells, Int.reduceLE, Int.reduceLT, Int.reduceToNat, add_mk, reduceCtorEq, List.mem_range'_1, true_and, and_true, and_false, false_and, Nat.reduceLT, Nat.reduceLeDiff, tyF, cr]
        try exact ⟨rfl, rfl⟩
      try simp (config := {maxSteps := 1000000}) only [↓zvN, zvU, ↓zqD, ↓sk_nil, ↓sk_cons, ↓sk_guard, ↓sk_zero, ↓sk_one, ↓sk_two, ↓up_apply, ↓hv_apply, ↓upO_some, ↓upO_none, ↓ev_tmp, ↓ev_const, ↓ev_func, ↓ev_global, init, Nat.reduceEqDiff, Nat.reduceAdd, Nat.reduceMul, Nat.reduceSub, ↓reduceIte, Int.reduceEq, Int.reduceNe, Nat.reduceLeDiff, one, Value.cells, Int.reduceLE, Int.reduceLT, Int.reduceToNat, add_mk, reduceCtorEq, List.mem_range'_1, true_and, and_true, and_false, false_and, Nat.reduceLT, Nat.reduceLeDiff, tyF]
      refine call_ok Try.call25 (ref_number w9 m.o.d1 8 hnum.d1 (by omega)) ?_
      rintro _ w10 ⟨A10, c10, rfl, o10, qw10⟩
      rw [numB_len] at o10 ⊢
      have h10' := RowS.mono h9 qw10
      have k10 := KeepF.more k9 qw10 (by rintro x rfl; exact (h9).blk.lt) (h9).more.size
      try simp (config := {maxSteps := 1000000}) only [↓zvN, zvU, ↓zqD, ↓sk_nil, ↓sk_cons, ↓sk_guard, ↓sk_zero, ↓sk_one, ↓sk_two, ↓up_apply, ↓hv_apply, ↓upO_some, ↓upO_none, ↓ev_tmp, ↓ev_const, ↓ev_func, ↓ev_global, init, Nat.reduceEqDiff, Nat.reduceAdd, Nat.reduceMul, Nat.reduceSub, ↓reduceIte, Int.reduceEq, Int.reduceNe, Nat.reduceLeDiff, one, Value.cells, Int.reduceLE, Int.reduceLT, Int.reduceToNat, add_mk, reduceCtorEq, List.mem_range'_1, true_and, and_true, and_false, false_and, Nat.reduceLT, Nat.reduceLeDiff, tyF]
      refine ⟨k10, ?_⟩
      try simp (config := {maxSteps := 1000000}) only [↓zvN, zvU, ↓zqD, ↓sk_nil, ↓sk_cons, ↓sk_guard, ↓sk_zero, ↓sk_one, ↓sk_two, ↓up_apply, ↓hv_apply, ↓upO_some, ↓upO_none, ↓ev_tmp, ↓ev_const, ↓ev_func, ↓ev_global, init, Nat.reduceEqDiff, Nat.reduceAdd, Nat.reduceMul, Nat.reduceSub, ↓reduceIte, Int.reduceEq, Int.reduceNe, Nat.reduceLeDiff, one, Value.cells, Int.reduceLE, Int.reduceLT, Int.reduceToNat, add_mk, reduceCtorEq, List.mem_range'_1, true_and, and_true, and_false, false_and, Nat.reduceLT, Nat.reduceLeDiff, tyF]
      have l9 : (lk ++ numB m.o.d0 8).length = lk.length + 8 := by simp [numB_len]
      refine RowS.app (h10') ((o10.cs)) ((numB_len _ _)) (by omega) (by omega) ?_
      intro A11 c11 w11 h11 mw11 gw11
      have k11 := RowS.keep h10' k10 mw11 gw11
      try simp (config := {maxSteps := 1000000}) only [↓zvN, zvU, ↓zqD, ↓sk_nil, ↓sk_cons, ↓sk_guard, ↓sk_zero, ↓sk_one, ↓sk_two, ↓up_apply, ↓hv_apply, ↓upO_some, ↓upO_none, ↓ev_tmp, ↓ev_const, ↓ev_func, ↓ev_global, init, Nat.reduceEqDiff, Nat.reduceAdd, Nat.reduceMul, Nat.reduceSub, ↓reduceIte, Int.reduceEq, Int.reduceNe, Nat.reduceLeDiff, one, Value.cells, Int.reduceLE, Int.reduceLT, Int.reduceToNat, add_mk, reduceCtorEq, List.mem_range'_1, true_and, and_true, and_false, false_and, Nat.reduceLT, Nat.reduceLeDiff, tyF]
      refine ⟨k11, ?_⟩
      try simp (config := {maxSteps := 1000000}) only [↓zvN, zvU, ↓zqD, ↓sk_nil, ↓sk_cons, ↓sk_guard, ↓sk_zero, ↓sk_one, ↓sk_two, ↓up_apply, ↓hv_apply, ↓upO_some, ↓upO_none, ↓ev_tmp, ↓ev_const, ↓ev_func, ↓ev_global, init, Nat.reduceEqDiff, Nat.reduceAdd, Nat.reduceMul, Nat.reduceSub, ↓reduceIte, Int.reduceEq, Int.reduceNe, Nat.reduceLeDiff, one, Value.cells, Int.reduceLE, Int.reduceLT, Int.reduceToNat, add_mk, reduceCtorEq, List.mem_range'_1, true_and, and_true, and_false, false_and, Nat.reduceLT, Nat.reduceLeDiff, tyF]
      have l11 : (lk ++ numB m.o.d0 8 ++ numB m.o.d1 8).length = lk.length + 16 := by simp [numB_len]
      have hput11 : lk ++ tailM m.o = lk ++ numB m.o.d0 8 ++ numB m.o.d1 8 ++ numB m.o.b.length 2 ++ m.o.b := by
        have : IntKind.u16.wrap (m.o.b.length : Int) = m.o.b.length := wu16 (by omega) (by omega)
        simp [tailM, k2, this]
      rw [hput11] at hput
      generalize lk ++ numB m.o.d0 8 ++ numB m.o.d1 8 = l11' at *
      have hp11 := h11.blk.lt
      have hw11 := h11.more.size
      refine draw_line w.heap.size (KeepF w.heap.size (fun x => x = p)) [0, 0, 2, 0, 0, 1, 1, 0, 2, 1, 0] [[], [], [1], [1, 2], [1, 2, 3], [1, 2, 3, 4], [0, 1, 2, 3, 4, 5], [], [7], [0, 1, 2, 3, 4, 5, 6, 7, 8], [0, 1, 2, 3, 4, 5, 6, 7, 8, 9]] mixed (by kernel_rfl) (by kernel_rfl) (KeepF.refl _ _ _) (fun w' h => KeepF.of_more h hw11 (by rintro x rfl; exact hp11)) (fun w' h => h.1) ?_
      intro w12 hm12
      have h12 := h11.mono hm12
      have k12 := KeepF.of_more (F := fun x => x = p) hm12 hw11 (by rintro x rfl; exact hp11)
      have ew : IntKind.u64.wrap (m.o.b.length : Int) = m.o.b.length := wu64 (by omega) (by omega)
      simp (config := {maxSteps := 1000000}) only [↓zvN, zvU, ↓zqD, ↓sk_nil, ↓sk_cons, ↓sk_guard, ↓sk_zero, ↓sk_one, ↓sk_two, ↓up_apply, ↓hv_apply, ↓upO_some, ↓upO_none, ↓ev_tmp, ↓ev_const, ↓ev_func, ↓ev_global, init, Nat.reduceEqDiff, Nat.reduceAdd, Nat.reduceMul, Nat.reduceSub, ↓reduceIte, Int.reduceEq, Int.reduceNe, Nat.reduceLeDiff, one, Value.cells, Int.reduceLE, Int.reduceLT, Int.reduceToNat, add_mk, reduceCtorEq, List.mem_range'_1, true_and, and_true, and_false, false_and, Nat.reduceLT, Nat.reduceLeDiff, tyF, h10, h4]
      refine read_ok (.slice m.A m.o.b.length m.c) rfl (fun wr hkr => ?_) ?_
      · have cr := (hkr.blk rfl h11.blk).cell 4
        have cr : wr.cell? ⟨p, 4, none⟩ = some (.slice m.A m.o.b.length m.c) := cr
        try simp (config := {maxSteps := 1000000}) only [↓zvN, zvU, ↓zqD, ↓sk_nil, ↓sk_cons, ↓sk_guard, ↓sk_zero, ↓sk_one, ↓sk_two, ↓up_apply, ↓hv_apply, ↓upO_some, ↓upO_none, ↓ev_tmp, ↓ev_const, ↓ev_func, ↓ev_global, init, Nat.reduceEqDiff, Nat.reduceAdd, Nat.reduceMul, Nat.reduceSub, ↓reduceIte, Int.reduceEq, Int.reduceNe, Nat.reduceLeDiff, one, Value.cells, Int.reduceLE, Int.reduceLT, Int.reduceToNat, add_mk, reduceCtorEq, List.mem_range'_1, true_and, and_true, and_false, false_and, Nat.reduceLT, Nat.reduceLeDiff, tyF, cr]
        try exact ⟨rfl, rfl⟩
      simp (config := {maxSteps := 1000000}) only [↓zvN, zvU, ↓zqD, ↓sk_nil, ↓sk_cons, ↓sk_guard, ↓sk_zero, ↓sk_one, ↓sk_two, ↓up_apply, ↓hv_apply, ↓upO_some, ↓upO_none, ↓ev_tmp, ↓ev_const, ↓ev_func, ↓ev_global, init, Nat.reduceEqDiff, Nat.reduceAdd, Nat.reduceMul, Nat.reduceSub, ↓reduceIte, Int.reduceEq, Int.reduceNe, Nat.reduceLeDiff, one, Value.cells, Int.reduceLE, Int.reduceLT, Int.reduceToNat, add_mk, reduceCtorEq, List.mem_range'_1, true_and, and_true, and_false, false_and, Nat.reduceLT, Nat.reduceLeDiff, tyF, ew]
      refine call_ok Try.call25 (ref_number w12 m.o.b.length 2 (by omega) (by omega)) ?_
      rintro _ w13 ⟨A13, c13, rfl, o13, qw13⟩
      rw [numB_len] at o13 ⊢
      have h13 := RowS.mono h12 qw13
      have k13 := KeepF.more k12 qw13 (by rintro x rfl; exact (h12).blk.lt) (h12).more.size
      try simp (config := {maxSteps := 1000000}) only [↓zvN, zvU, ↓zqD, ↓sk_nil, ↓sk_cons, ↓sk_guard, ↓sk_zero, ↓sk_one, ↓sk_two, ↓up_apply, ↓hv_apply, ↓upO_some, ↓upO_none, ↓ev_tmp, ↓ev_const, ↓ev_func, ↓ev_global, init, Nat.reduceEqDiff, Nat.reduceAdd, Nat.reduceMul, Nat.reduceSub, ↓reduceIte, Int.reduceEq, Int.reduceNe, Nat.reduceLeDiff, one, Value.cells, Int.reduceLE, Int.reduceLT, Int.reduceToNat, add_mk, reduceCtorEq, List.mem_range'_1, true_and, and_true, and_false, false_and, Nat.reduceLT, Nat.reduceLeDiff, tyF]
      refine ⟨k13, ?_⟩
      try simp (config := {maxSteps := 1000000}) only [↓zvN, zvU, ↓zqD, ↓sk_nil, ↓sk_cons, ↓sk_guard, ↓sk_zero, ↓sk_one, ↓sk_two, ↓up_apply, ↓hv_apply, ↓upO_some, ↓upO_none, ↓ev_tmp, ↓ev_const, ↓ev_func, ↓ev_global, init, Nat.reduceEqDiff, Nat.reduceAdd, Nat.reduceMul, Nat.reduceSub, ↓reduceIte, Int.reduceEq, Int.reduceNe, Nat.reduceLeDiff, one, Value.cells, Int.reduceLE, Int.reduceLT, Int.reduceToNat, add_mk, reduceCtorEq, List.mem_range'_1, true_and, and_true, and_false, false_and, Nat.reduceLT, Nat.reduceLeDiff, tyF]
      refine RowS.app (h13) ((o13.cs)) ((numB_len _ _)) (by omega) (by omega) ?_
      intro A14 c14 w14 h14 mw14 gw14
      have k14 := RowS.keep h13 k13 mw14 gw14
      try simp (config := {maxSteps := 1000000}) only [↓zvN, zvU, ↓zqD, ↓sk_nil, ↓sk_cons, ↓sk_guard, ↓sk_zero, ↓sk_one, ↓sk_two, ↓up_apply, ↓hv_apply, ↓upO_some, ↓upO_none, ↓ev_tmp, ↓ev_const, ↓ev_func, ↓ev_global, init, Nat.reduceEqDiff, Nat.reduceAdd, Nat.reduceMul, Nat.reduceSub, ↓reduceIte, Int.reduceEq, Int.reduceNe, Nat.reduceLeDiff, one, Value.cells, Int.reduceLE, Int.reduceLT, Int.reduceToNat, add_mk, reduceCtorEq, List.mem_range'_1, true_and, and_true, and_false, false_and, Nat.reduceLT, Nat.reduceLeDiff, tyF]
      refine ⟨k14, ?_⟩
      try simp (config := {maxSteps := 1000000}) only [↓zvN, zvU, ↓zqD, ↓sk_nil, ↓sk_cons, ↓sk_guard, ↓sk_zero, ↓sk_one, ↓sk_two, ↓up_apply, ↓hv_apply, ↓upO_some, ↓upO_none, ↓ev_tmp, ↓ev_const, ↓ev_func, ↓ev_global, init, Nat.reduceEqDiff, Nat.reduceAdd, Nat.reduceMul, Nat.reduceSub, ↓reduceIte, Int.reduceEq, Int.reduceNe, Nat.reduceLeDiff, one, Value.cells, Int.reduceLE, Int.reduceLT, Int.reduceToNat, add_mk, reduceCtorEq, List.mem_range'_1, true_and, and_true, and_false, false_and, Nat.reduceLT, Nat.reduceLeDiff, tyF]
      have l14 : (l11' ++ numB m.o.b.length 2).length = l11'.length + 2 := by simp [numB_len]
      refine read_ok (.slice m.A m.o.b.length m.c) rfl (fun wr hkr => ?_) ?_
      · have cr := (hkr.blk rfl h11.blk).cell 4
        have cr : wr.cell? ⟨p, 4, none⟩ = some (.slice m.A m.o.b.length m.c) := cr
        try simp (config := {maxSteps := 1000000}) only [↓zvN, zvU, ↓zqD, ↓sk_nil, ↓sk_cons, ↓sk_guard, ↓sk_zero, ↓sk_one, ↓sk_two, ↓up_apply, ↓hv_apply, ↓upO_some, ↓upO_none, ↓ev_tmp, ↓ev_const, ↓ev_func, ↓ev_global, init, Nat.reduceEqDiff, Nat.reduceAdd, Nat.reduceMul, Nat.reduceSub, ↓reduceIte, Int.reduceEq, Int.reduceNe, Nat.reduceLeDiff, one, Value.cells, Int.reduceLE, Int.reduceLT, Int.reduceToNat, add_mk, reduceCtorEq, List.mem_range'_1, true_and, and_true, and_false, false_and, Nat.reduceLT, Nat.reduceLeDiff, tyF, cr]
        try exact ⟨rfl, rfl⟩
      try simp (config := {maxSteps := 1000000}) only [↓zvN, zvU, ↓zqD, ↓sk_nil, ↓sk_cons, ↓sk_guard, ↓sk_zero, ↓sk_one, ↓sk_two, ↓up_apply, ↓hv_apply, ↓upO_some, ↓upO_none, ↓ev_tmp, ↓ev_const, ↓ev_func, ↓ev_global, init, Nat.reduceEqDiff, Nat.reduceAdd, Nat.reduceMul, Nat.reduceSub, ↓reduceIte, Int.reduceEq, Int.reduceNe, Nat.reduceLeDiff, one, Value.cells, Int.reduceLE, Int.reduceLT, Int.reduceToNat, add_mk, reduceCtorEq, List.mem_range'_1, true_and, and_true, and_false, false_and, Nat.reduceLT, Nat.reduceLeDiff, tyF]
      refine RowS.app (h14) ((hbb.more h14.more)) (rfl) (by omega) (by omega) ?_
      intro A15 c15 w15 h15 mw15 gw15
      have k15 := RowS.keep h14 k14 mw15 gw15
      try simp (config := {maxSteps := 1000000}) only [↓zvN, zvU, ↓zqD, ↓sk_nil, ↓sk_cons, ↓sk_guard, ↓sk_zero, ↓sk_one, ↓sk_two, ↓up_apply, ↓hv_apply, ↓upO_some, ↓upO_none, ↓ev_tmp, ↓ev_const, ↓ev_func, ↓ev_global, init, Nat.reduceEqDiff, Nat.reduceAdd, Nat.reduceMul, Nat.reduceSub, ↓reduceIte, Int.reduceEq, Int.reduceNe, Nat.reduceLeDiff, one, Value.cells, Int.reduceLE, Int.reduceLT, Int.reduceToNat, add_mk, reduceCtorEq, List.mem_range'_1, true_and, and_true, and_false, false_and, Nat.reduceLT, Nat.reduceLeDiff, tyF]
      refine ⟨k15, ?_⟩
      try simp (config := {maxSteps := 1000000}) only [↓zvN, zvU, ↓zqD, ↓sk_nil, ↓sk_cons, ↓sk_guard, ↓sk_zero, ↓sk_one, ↓sk_two, ↓up_apply, ↓hv_apply, ↓upO_some, ↓upO_none, ↓ev_tmp, ↓ev_const, ↓ev_func, ↓ev_global, init, Nat.reduceEqDiff, Nat.reduceAdd, Nat.reduceMul, Nat.reduceSub, ↓reduceIte, Int.reduceEq, Int.reduceNe, Nat.reduceLeDiff, one, Value.cells, Int.reduceLE, Int.reduceLT, Int.reduceToNat, add_mk, reduceCtorEq, List.mem_range'_1, true_and, and_true, and_false, false_and, Nat.reduceLT, Nat.reduceLeDiff, tyF]
      have hF := h15
      have hokk : okM m.o := (by unfold okM; simp only [k2, if_true]; exact hb)
      try simp (config := {maxSteps := 1000000}) only [↓zvN, zvU, ↓up_apply, ↓hv_apply, ↓upO_some, ↓upO_none, ↓ev_tmp, ↓ev_const, ↓ev_func, ↓ev_global, init, Nat.reduceEqDiff, Nat.reduceAdd, Nat.reduceMul, Nat.reduceSub, ↓reduceIte, Int.reduceEq, Int.reduceNe, Nat.reduceLeDiff, one, Value.cells, Int.reduceLE, Int.reduceLT, Int.reduceToNat, add_mk, reduceCtorEq, List.mem_range'_1, true_and, and_true, and_false, false_and, Nat.reduceLT, Nat.reduceLeDiff, tyF, h10, h4, ek]
      have heq : ((ms.map OpM.o).take (k + 1)).flatMap putM = l11' ++ numB m.o.b.length 2 ++ m.o.b := (hput).trans rfl
      refine ⟨⟨?_, k + 1, _, _, rfl, by rw [List.length_map]; omega, by rw [heq], by rw [heq]; exact hF.own, hstep hokk, hF.more⟩, by simp only [numOf]; omega⟩
      repeat (first | exact Same.hv _ _ _ | refine Same.up (by simp) ?_)
    by_cases k3 : m.o.kind = 3
    · rw [k3] at c06
      simp (config := {maxSteps := 1000000}) only [↓zvN, zvU, ↓up_apply, ↓hv_apply, ↓upO_some, ↓upO_none, ↓ev_tmp, ↓ev_const, ↓ev_func, ↓ev_global, init, Nat.reduceEqDiff, Nat.reduceAdd, Nat.reduceMul, Nat.reduceSub, ↓reduceIte, Int.reduceEq, Int.reduceNe, Nat.reduceLeDiff, one, Value.cells, Int.reduceLE, Int.reduceLT, Int.reduceToNat, add_mk, reduceCtorEq, List.mem_range'_1, true_and, and_true, and_false, false_and, Nat.reduceLT, Nat.reduceLeDiff, tyF, h10, h4, c06]
      have hF := h6
      have hokk : okM m.o := (by unfold okM; simp [k3])
      try simp (config := {maxSteps := 1000000}) only [↓zvN, zvU, ↓up_apply, ↓hv_apply, ↓upO_some, ↓upO_none, ↓ev_tmp, ↓ev_const, ↓ev_func, ↓ev_global, init, Nat.reduceEqDiff, Nat.reduceAdd, Nat.reduceMul, Nat.reduceSub, ↓reduceIte, Int.reduceEq, Int.reduceNe, Nat.reduceLeDiff, one, Value.cells, Int.reduceLE, Int.reduceLT, Int.reduceToNat, add_mk, reduceCtorEq, List.mem_range'_1, true_and, and_true, and_false, false_and, Nat.reduceLT, Nat.reduceLeDiff, tyF, h10, h4, ek]
      have heq : ((ms.map OpM.o).take (k + 1)).flatMap putM = lk := (hput).trans (by simp [tailM, k3])
      refine ⟨⟨?_, k + 1, _, _, rfl, by rw [List.length_map]; omega, by rw [heq], by rw [heq]; exact hF.own, hstep hokk, hF.more⟩, by simp only [numOf]; omega⟩
      repeat (first | exact Same.hv _ _ _ | refine Same.up (by simp) ?_)
    by_cases k6 : m.o.kind = 6
    · rw [k6] at c06
      simp (config := {maxSteps := 1000000}) only [↓zvN, zvU, ↓up_apply, ↓hv_apply, ↓upO_some, ↓upO_none, ↓ev_tmp, ↓ev_const, ↓ev_func, ↓ev_global, init, Nat.reduceEqDiff, Nat.reduceAdd, Nat.reduceMul, Nat.reduceSub, ↓reduceIte, Int.reduceEq, Int.reduceNe, Nat.reduceLeDiff, one, Value.cells, Int.reduceLE, Int.reduceLT, Int.reduceToNat, add_mk, reduceCtorEq, List.mem_range'_1, true_and, and_true, and_false, false_and, Nat.reduceLT, Nat.reduceLeDiff, tyF, h10, h4, c06]
      have hF := h6
      have hokk : okM m.o := (by unfold okM; simp [k6])
      try simp (config := {maxSteps := 1000000}) only [↓zvN, zvU, ↓up_apply, ↓hv_apply, ↓upO_some, ↓upO_none, ↓ev_tmp, ↓ev_const, ↓ev_func, ↓ev_global, init, Nat.reduceEqDiff, Nat.reduceAdd, Nat.reduceMul, Nat.reduceSub, ↓reduceIte, Int.reduceEq, Int.reduceNe, Nat.reduceLeDiff, one, Value.cells, Int.reduceLE, Int.reduceLT, Int.reduceToNat, add_mk, reduceCtorEq, List.mem_range'_1, true_and, and_true, and_false, false_and, Nat.reduceLT, Nat.reduceLeDiff, tyF, h10, h4, ek]
      have heq : ((ms.map OpM.o).take (k + 1)).flatMap putM = lk := (hput).trans (by simp [tailM, k6])
      refine ⟨⟨?_, k + 1, _, _, rfl, by rw [List.length_map]; omega, by rw [heq], by rw [heq]; exact hF.own, hstep hokk, hF.more⟩, by simp only [numOf]; omega⟩
      repeat (first | exact Same.hv _ _ _ | refine Same.up (by simp) ?_)
    by_cases k8 : m.o.kind = 8
    · rw [k8] at c06
      simp (config := {maxSteps := 1000000}) only [↓zvN, zvU, ↓up_apply, ↓hv_apply, ↓upO_some, ↓upO_none, ↓ev_tmp, ↓ev_const, ↓ev_func, ↓ev_global, init, Nat.reduceEqDiff, Nat.reduceAdd, Nat.reduceMul, Nat.reduceSub, ↓reduceIte, Int.reduceEq, Int.reduceNe, Nat.reduceLeDiff, one, Value.cells, Int.reduceLE, Int.reduceLT, Int.reduceToNat, add_mk, reduceCtorEq, List.mem_range'_1, true_and, and_true, and_false, false_and, Nat.reduceLT, Nat.reduceLeDiff, tyF, h10, h4, c06]
      have hF := h6
      have hokk : okM m.o := (by unfold okM; simp [k8])
      try simp (config := {maxSteps := 1000000}) only [↓zvN, zvU, ↓up_apply, ↓hv_apply, ↓upO_some, ↓upO_none, ↓ev_tmp, ↓ev_const, ↓ev_func, ↓ev_global, init, Nat.reduceEqDiff, Nat.reduceAdd, Nat.reduceMul, Nat.reduceSub, ↓reduceIte, Int.reduceEq, Int.reduceNe, Nat.reduceLeDiff, one, Value.cells, Int.reduceLE, Int.reduceLT, Int.reduceToNat, add_mk, reduceCtorEq, List.mem_range'_1, true_and, and_true, and_false, false_and, Nat.reduceLT, Nat.reduceLeDiff, tyF, h10, h4, ek]
      have heq : ((ms.map OpM.o).take (k + 1)).flatMap putM = lk := (hput).trans (by simp [tailM, k8])
      refine ⟨⟨?_, k + 1, _, _, rfl, by rw [List.length_map]; omega, by rw [heq], by rw [heq]; exact hF.own, hstep hokk, hF.more⟩, by simp only [numOf]; omega⟩
      repeat (first | exact Same.hv _ _ _ | refine Same.up (by simp) ?_)
    by_cases k4 : m.o.kind = 4
    · rw [k4] at c06
      have hA4 : Bs w6 (some ⟨p, 5, none⟩) m.o.key := blk_bs h6.blk (by rw [hfit.key]; exact SOp.cKey hfit _)
      simp (config := {maxSteps := 1000000}) only [↓zvN, zvU, ↓up_apply, ↓hv_apply, ↓upO_some, ↓upO_none, ↓ev_tmp, ↓ev_const, ↓ev_func, ↓ev_global, init, Nat.reduceEqDiff, Nat.reduceAdd, Nat.reduceMul, Nat.reduceSub, ↓reduceIte, Int.reduceEq, Int.reduceNe, Nat.reduceLeDiff, one, Value.cells, Int.reduceLE, Int.reduceLT, Int.reduceToNat, add_mk, reduceCtorEq, List.mem_range'_1, true_and, and_true, and_false, false_and, Nat.reduceLT, Nat.reduceLeDiff, tyF, h10, h4, c06]
      refine RowS.app (h6) (hA4) (hfit.key) (by omega) (by omega) ?_
      intro A8 c8 w8 h8' mw8 gw8
      have hF := h8'
      have hokk : okM m.o := (by unfold okM; simp [k4])
      try simp (config := {maxSteps := 1000000}) only [↓zvN, zvU, ↓up_apply, ↓hv_apply, ↓upO_some, ↓upO_none, ↓ev_tmp, ↓ev_const, ↓ev_func, ↓ev_global, init, Nat.reduceEqDiff, Nat.reduceAdd, Nat.reduceMul, Nat.reduceSub, ↓reduceIte, Int.reduceEq, Int.reduceNe, Nat.reduceLeDiff, one, Value.cells, Int.reduceLE, Int.reduceLT, Int.reduceToNat, add_mk, reduceCtorEq, List.mem_range'_1, true_and, and_true, and_false, false_and, Nat.reduceLT, Nat.reduceLeDiff, tyF, h10, h4, ek]
      have heq : ((ms.map OpM.o).take (k + 1)).flatMap putM = lk ++ m.o.key := (hput).trans (by simp [tailM, k4])
      refine ⟨⟨?_, k + 1, _, _, rfl, by rw [List.length_map]; omega, by rw [heq], by rw [heq]; exact hF.own, hstep hokk, hF.more⟩, by simp only [numOf]; omega⟩
      repeat (first | exact Same.hv _ _ _ | refine Same.up (by simp) ?_)
    by_cases k5 : m.o.kind = 5
    · rw [k5] at c06
      have c21 : w6.cell? ⟨p, 21, none⟩ = some (.bool m.o.v6) := by rw [h6.blk.cell]; exact SOp.cV6 hfit _
      cases hv6 : m.o.v6 with
      | true =>
        rw [hv6] at c21
        simp (config := {maxSteps := 1000000}) only [↓zvN, zvU, ↓up_apply, ↓hv_apply, ↓upO_some, ↓upO_none, ↓ev_tmp, ↓ev_const, ↓ev_func, ↓ev_global, init, Nat.reduceEqDiff, Nat.reduceAdd, Nat.reduceMul, Nat.reduceSub, ↓reduceIte, Int.reduceEq, Int.reduceNe, Nat.reduceLeDiff, one, Value.cells, Int.reduceLE, Int.reduceLT, Int.reduceToNat, add_mk, reduceCtorEq, List.mem_range'_1, true_and, and_true, and_false, false_and, Nat.reduceLT, Nat.reduceLeDiff, tyF, h10, h4, c06, c21]
        refine draw_line w.heap.size (KeepF w.heap.size (fun x => x = p)) [0, 0, 1, 1, 0, 0, 0, 1, 0] [[], [], [1], [0, 1, 2], [], [4], [4, 5], [0, 1, 2, 3, 4, 5, 6], [0, 1, 2, 3, 4, 5, 6, 7]] mixed (by kernel_rfl) (by kernel_rfl) (KeepF.refl _ _ _) (fun w' h => KeepF.of_more h hw6 (by rintro x rfl; exact hp6)) (fun w' h => h.1) ?_
        intro w7 hm7
        have h7 := h6.mono hm7
        have k7' := KeepF.of_more (F := fun x => x = p) hm7 hw6 (by rintro x rfl; exact hp6)
        simp (config := {maxSteps := 1000000}) only [↓zvN, zvU, ↓zqD, ↓sk_nil, ↓sk_cons, ↓sk_guard, ↓sk_zero, ↓sk_one, ↓sk_two, ↓up_apply, ↓hv_apply, ↓upO_some, ↓upO_none, ↓ev_tmp, ↓ev_const, ↓ev_func, ↓ev_global, init, Nat.reduceEqDiff, Nat.reduceAdd, Nat.reduceMul, Nat.reduceSub, ↓reduceIte, Int.reduceEq, Int.reduceNe, Nat.reduceLeDiff, one, Value.cells, Int.reduceLE, Int.reduceLT, Int.reduceToNat, add_mk, reduceCtorEq, List.mem_range'_1, true_and, and_true, and_false, false_and, Nat.reduceLT, Nat.reduceLeDiff, tyF, h10, h4]
        refine bslice (z := .int .u8 0) (cells := #[.int .u8 1]) Try.underlying22 byteE (by omega) (by have := bcells_list (z := .int .u8 0) [.int .u8 1] (by intro v hv; simp at hv; subst hv; rfl); exact this) ?_
        have hm8 := more_alloc w7 (.cells #[.int .u8 1] 5)
        have hb8 := Blk.new w7 5 #[.int .u8 1]
        simp (config := {maxSteps := 1000000}) only [↓zvN, zvU, ↓zqD, ↓sk_nil, ↓sk_cons, ↓sk_guard, ↓sk_zero, ↓sk_one, ↓sk_two, ↓up_apply, ↓hv_apply, ↓upO_some, ↓upO_none, ↓ev_tmp, ↓ev_const, ↓ev_func, ↓ev_global, init, Nat.reduceEqDiff, Nat.reduceAdd, Nat.reduceMul, Nat.reduceSub, ↓reduceIte, Int.reduceEq, Int.reduceNe, Nat.reduceLeDiff, one, Value.cells, Int.reduceLE, Int.reduceLT, Int.reduceToNat, add_mk, reduceCtorEq, List.mem_range'_1, true_and, and_true, and_false, false_and, Nat.reduceLT, Nat.reduceLeDiff, tyF, h10, h4]
        generalize w7.alloc (.cells #[.int .u8 1] 5) = w8 at hm8 hb8 ⊢
        have h8' := h7.mono hm8
        have k8' := k7'.more hm8 (by rintro x rfl; exact h7.blk.lt) h7.more.size
        have hc8 : Bs w8 (some ⟨w7.heap.size, 0, none⟩) [1] := hb8.cs
        refine ⟨k8', ?_⟩
        try simp (config := {maxSteps := 1000000}) only [↓zvN, zvU, ↓zqD, ↓sk_nil, ↓sk_cons, ↓sk_guard, ↓sk_zero, ↓sk_one, ↓sk_two, ↓up_apply, ↓hv_apply, ↓upO_some, ↓upO_none, ↓ev_tmp, ↓ev_const, ↓ev_func, ↓ev_global, init, Nat.reduceEqDiff, Nat.reduceAdd, Nat.reduceMul, Nat.reduceSub, ↓reduceIte, Int.reduceEq, Int.reduceNe, Nat.reduceLeDiff, one, Value.cells, Int.reduceLE, Int.reduceLT, Int.reduceToNat, add_mk, reduceCtorEq, List.mem_range'_1, true_and, and_true, and_false, false_and, Nat.reduceLT, Nat.reduceLeDiff, tyF]
        refine RowS.app (h8') (hc8) (rfl) (by omega) (by omega) ?_
        intro A9 c9 w9 h9 mw9 gw9
        have k9 := RowS.keep h8' k8' mw9 gw9
        try simp (config := {maxSteps := 1000000}) only [↓zvN, zvU, ↓zqD, ↓sk_nil, ↓sk_cons, ↓sk_guard, ↓sk_zero, ↓sk_one, ↓sk_two, ↓up_apply, ↓hv_apply, ↓upO_some, ↓upO_none, ↓ev_tmp, ↓ev_const, ↓ev_func, ↓ev_global, init, Nat.reduceEqDiff, Nat.reduceAdd, Nat.reduceMul, Nat.reduceSub, ↓reduceIte, Int.reduceEq, Int.reduceNe, Nat.reduceLeDiff, one, Value.cells, Int.reduceLE, Int.reduceLT, Int.reduceToNat, add_mk, reduceCtorEq, List.mem_range'_1, true_and, and_true, and_false, false_and, Nat.reduceLT, Nat.reduceLeDiff, tyF]
        refine ⟨k9, ?_⟩
        try simp (config := {maxSteps := 1000000}) only [↓zvN, zvU, ↓zqD, ↓sk_nil, ↓sk_cons, ↓sk_guard, ↓sk_zero, ↓sk_one, ↓sk_two, ↓up_apply, ↓hv_apply, ↓upO_some, ↓upO_none, ↓ev_tmp, ↓ev_const, ↓ev_func, ↓ev_global, init, Nat.reduceEqDiff, Nat.reduceAdd, Nat.reduceMul, Nat.reduceSub, ↓reduceIte, Int.reduceEq, Int.reduceNe, Nat.reduceLeDiff, one, Value.cells, Int.reduceLE, Int.reduceLT, Int.reduceToNat, add_mk, reduceCtorEq, List.mem_range'_1, true_and, and_true, and_false, false_and, Nat.reduceLT, Nat.reduceLeDiff, tyF]
        have hA9 : Bs w9 (some ⟨p, 22, none⟩) m.o.addr := blk_bs h9.blk (by rw [hfit.addr]; exact SOp.cAddr hfit _)
        have l9 : (lk ++ [(1 : UInt8)]).length = lk.length + 1 := by simp
        refine RowS.app (h9) (hA9) (hfit.addr) (by omega) (by omega) ?_
        intro A10 c10 w10 h10' mw10 gw10
        have k10 := RowS.keep h9 k9 mw10 gw10
        try simp (config := {maxSteps := 1000000}) only [↓zvN, zvU, ↓zqD, ↓sk_nil, ↓sk_cons, ↓sk_guard, ↓sk_zero, ↓sk_one, ↓sk_two, ↓up_apply, ↓hv_apply, ↓upO_some, ↓upO_none, ↓ev_tmp, ↓ev_const, ↓ev_func, ↓ev_global, init, Nat.reduceEqDiff, Nat.reduceAdd, Nat.reduceMul, Nat.reduceSub, ↓reduceIte, Int.reduceEq, Int.reduceNe, Nat.reduceLeDiff, one, Value.cells, Int.reduceLE, Int.reduceLT, Int.reduceToNat, add_mk, reduceCtorEq, List.mem_range'_1, true_and, and_true, and_false, false_and, Nat.reduceLT, Nat.reduceLeDiff, tyF]
        refine ⟨k10, ?_⟩
        try simp (config := {maxSteps := 1000000}) only [↓zvN, zvU, ↓zqD, ↓sk_nil, ↓sk_cons, ↓sk_guard, ↓sk_zero, ↓sk_one, ↓sk_two, ↓up_apply, ↓hv_apply, ↓upO_some, ↓upO_none, ↓ev_tmp, ↓ev_const, ↓ev_func, ↓ev_global, init, Nat.reduceEqDiff, Nat.reduceAdd, Nat.reduceMul, Nat.reduceSub, ↓reduceIte, Int.reduceEq, Int.reduceNe, Nat.reduceLeDiff, one, Value.cells, Int.reduceLE, Int.reduceLT, Int.reduceToNat, add_mk, reduceCtorEq, List.mem_range'_1, true_and, and_true, and_false, false_and, Nat.reduceLT, Nat.reduceLeDiff, tyF]
        have hF := h10'
        have hokk : okM m.o := (by unfold okM; simp [k5])
        try simp (config := {maxSteps := 1000000}) only [↓zvN, zvU, ↓up_apply, ↓hv_apply, ↓upO_some, ↓upO_none, ↓ev_tmp, ↓ev_const, ↓ev_func, ↓ev_global, init, Nat.reduceEqDiff, Nat.reduceAdd, Nat.reduceMul, Nat.reduceSub, ↓reduceIte, Int.reduceEq, Int.reduceNe, Nat.reduceLeDiff, one, Value.cells, Int.reduceLE, Int.reduceLT, Int.reduceToNat, add_mk, reduceCtorEq, List.mem_range'_1, true_and, and_true, and_false, false_and, Nat.reduceLT, Nat.reduceLeDiff, tyF, h10, h4, ek]
        have heq : ((ms.map OpM.o).take (k + 1)).flatMap putM = lk ++ [1] ++ m.o.addr := (hput).trans (by simp [tailM, k5, hv6])
        refine ⟨⟨?_, k + 1, _, _, rfl, by rw [List.length_map]; omega, by rw [heq], by rw [heq]; exact hF.own, hstep hokk, hF.more⟩, by simp only [numOf]; omega⟩
        repeat (first | exact Same.hv _ _ _ | refine Same.up (by simp) ?_)
      | false =>
        rw [hv6] at c21
        simp (config := {maxSteps := 1000000}) only [↓zvN, zvU, ↓up_apply, ↓hv_apply, ↓upO_some, ↓upO_none, ↓ev_tmp, ↓ev_const, ↓ev_func, ↓ev_global, init, Nat.reduceEqDiff, Nat.reduceAdd, Nat.reduceMul, Nat.reduceSub, ↓reduceIte, Int.reduceEq, Int.reduceNe, Nat.reduceLeDiff, one, Value.cells, Int.reduceLE, Int.reduceLT, Int.reduceToNat, add_mk, reduceCtorEq, List.mem_range'_1, true_and, and_true, and_false, false_and, Nat.reduceLT, Nat.reduceLeDiff, tyF, h10, h4, c06, c21]
        refine draw_line w.heap.size (KeepF w.heap.size (fun x => x = p)) [0, 0, 1, 1, 0, 0, 0, 1, 0] [[], [], [1], [0, 1, 2], [], [4], [4, 5], [0, 1, 2, 3, 4, 5, 6], [0, 1, 2, 3, 4, 5, 6, 7]] mixed (by kernel_rfl) (by kernel_rfl) (KeepF.refl _ _ _) (fun w' h => KeepF.of_more h hw6 (by rintro x rfl; exact hp6)) (fun w' h => h.1) ?_
        intro w7 hm7
        have h7 := h6.mono hm7
        have k7' := KeepF.of_more (F := fun x => x = p) hm7 hw6 (by rintro x rfl; exact hp6)
        simp (config := {maxSteps := 1000000}) only [↓zvN, zvU, ↓zqD, ↓sk_nil, ↓sk_cons, ↓sk_guard, ↓sk_zero, ↓sk_one, ↓sk_two, ↓up_apply, ↓hv_apply, ↓upO_some, ↓upO_none, ↓ev_tmp, ↓ev_const, ↓ev_func, ↓ev_global, init, Nat.reduceEqDiff, Nat.reduceAdd, Nat.reduceMul, Nat.reduceSub, ↓reduceIte, Int.reduceEq, Int.reduceNe, Nat.reduceLeDiff, one, Value.cells, Int.reduceLE, Int.reduceLT, Int.reduceToNat, add_mk, reduceCtorEq, List.mem_range'_1, true_and, and_true, and_false, false_and, Nat.reduceLT, Nat.reduceLeDiff, tyF, h10, h4]
        refine bslice (z := .int .u8 0) (cells := #[.int .u8 0]) Try.underlying22 byteE (by omega) (by have := bcells_list (z := .int .u8 0) [.int .u8 0] (by intro v hv; simp at hv; subst hv; rfl); exact this) ?_
        have hm8 := more_alloc w7 (.cells #[.int .u8 0] 5)
        have hb8 := Blk.new w7 5 #[.int .u8 0]
        simp (config := {maxSteps := 1000000}) only [↓zvN, zvU, ↓zqD, ↓sk_nil, ↓sk_cons, ↓sk_guard, ↓sk_zero, ↓sk_one, ↓sk_two, ↓up_apply, ↓hv_apply, ↓upO_some, ↓upO_none, ↓ev_tmp, ↓ev_const, ↓ev_func, ↓ev_global, init, Nat.reduceEqDiff, Nat.reduceAdd, Nat.reduceMul, Nat.reduceSub, ↓reduceIte, Int.reduceEq, Int.reduceNe, Nat.reduceLeDiff, one, Value.cells, Int.reduceLE, Int.reduceLT, Int.reduceToNat, add_mk, reduceCtorEq, List.mem_range'_1, true_and, and_true, and_false, false_and, Nat.reduceLT, Nat.reduceLeDiff, tyF, h10, h4]
        generalize w7.alloc (.cells #[.int .u8 0] 5) = w8 at hm8 hb8 ⊢
        have h8' := h7.mono hm8
        have k8' := k7'.more hm8 (by rintro x rfl; exact h7.blk.lt) h7.more.size
        have hc8 : Bs w8 (some ⟨w7.heap.size, 0, none⟩) [0] := hb8.cs
        refine ⟨k8', ?_⟩
        try simp (config := {maxSteps := 1000000}) only [↓zvN, zvU, ↓zqD, ↓sk_nil, ↓sk_cons, ↓sk_guard, ↓sk_zero, ↓sk_one, ↓sk_two, ↓up_apply, ↓hv_apply, ↓upO_some, ↓upO_none, ↓ev_tmp, ↓ev_const, ↓ev_func, ↓ev_global, init, Nat.reduceEqDiff, Nat.reduceAdd, Nat.reduceMul, Nat.reduceSub, ↓reduceIte, Int.reduceEq, Int.reduceNe, Nat.reduceLeDiff, one, Value.cells, Int.reduceLE, Int.reduceLT, Int.reduceToNat, add_mk, reduceCtorEq, List.mem_range'_1, true_and, and_true, and_false, false_and, Nat.reduceLT, Nat.reduceLeDiff, tyF]
        refine RowS.app (h8') (hc8) (rfl) (by omega) (by omega) ?_
        intro A9 c9 w9 h9 mw9 gw9
        have k9 := RowS.keep h8' k8' mw9 gw9
        try simp (config := {maxSteps := 1000000}) only [↓zvN, zvU, ↓zqD, ↓sk_nil, ↓sk_cons, ↓sk_guard, ↓sk_zero, ↓sk_one, ↓sk_two, ↓up_apply, ↓hv_apply, ↓upO_some, ↓upO_none, ↓ev_tmp, ↓ev_const, ↓ev_func, ↓ev_global, init, Nat.reduceEqDiff, Nat.reduceAdd, Nat.reduceMul, Nat.reduceSub, ↓reduceIte, Int.reduceEq, Int.reduceNe, Nat.reduceLeDiff, one, Value.cells, Int.reduceLE, Int.reduceLT, Int.reduceToNat, add_mk, reduceCtorEq, List.mem_range'_1, true_and, and_true, and_false, false_and, Nat.reduceLT, Nat.reduceLeDiff, tyF]
        refine ⟨k9, ?_⟩
        try simp (config := {maxSteps := 1000000}) only [↓zvN, zvU, ↓zqD, ↓sk_nil, ↓sk_cons, ↓sk_guard, ↓sk_zero, ↓sk_one, ↓sk_two, ↓up_apply, ↓hv_apply, ↓upO_some, ↓upO_none, ↓ev_tmp, ↓ev_const, ↓ev_func, ↓ev_global, init, Nat.reduceEqDiff, Nat.reduceAdd, Nat.reduceMul, Nat.reduceSub, ↓reduceIte, Int.reduceEq, Int.reduceNe, Nat.reduceLeDiff, one, Value.cells, Int.reduceLE, Int.reduceLT, Int.reduceToNat, add_mk, reduceCtorEq, List.mem_range'_1, true_and, and_true, and_false, false_and, Nat.reduceLT, Nat.reduceLeDiff, tyF]
        have hA9 : Bs w9 (some ⟨p, 22, none⟩) m.o.addr := blk_bs h9.blk (by rw [hfit.addr]; exact SOp.cAddr hfit _)
        have l9 : (lk ++ [(0 : UInt8)]).length = lk.length + 1 := by simp
        refine RowS.app (h9) (hA9) (hfit.addr) (by omega) (by omega) ?_
        intro A10 c10 w10 h10' mw10 gw10
        have k10 := RowS.keep h9 k9 mw10 gw10
        try simp (config := {maxSteps := 1000000}) only [↓zvN, zvU, ↓zqD, ↓sk_nil, ↓sk_cons, ↓sk_guard, ↓sk_zero, ↓sk_one, ↓sk_two, ↓up_apply, ↓hv_apply, ↓upO_some, ↓upO_none, ↓ev_tmp, ↓ev_const, ↓ev_func, ↓ev_global, init, Nat.reduceEqDiff, Nat.reduceAdd, Nat.reduceMul, Nat.reduceSub, ↓reduceIte, Int.reduceEq, Int.reduceNe, Nat.reduceLeDiff, one, Value.cells, Int.reduceLE, Int.reduceLT, Int.reduceToNat, add_mk, reduceCtorEq, List.mem_range'_1, true_and, and_true, and_false, false_and, Nat.reduceLT, Nat.reduceLeDiff, tyF]
        refine ⟨k10, ?_⟩
        try simp (config := {maxSteps := 1000000}) only [↓zvN, zvU, ↓zqD, ↓sk_nil, ↓sk_cons, ↓sk_guard, ↓sk_zero, ↓sk_one, ↓sk_two, ↓up_apply, ↓hv_apply, ↓upO_some, ↓upO_none, ↓ev_tmp, ↓ev_const, ↓ev_func, ↓ev_global, init, Nat.reduceEqDiff, Nat.reduceAdd, Nat.reduceMul, Nat.reduceSub, ↓reduceIte, Int.reduceEq, Int.reduceNe, Nat.reduceLeDiff, one, Value.cells, Int.reduceLE, Int.reduceLT, Int.reduceToNat, add_mk, reduceCtorEq, List.mem_range'_1, true_and, and_true, and_false, false_and, Nat.reduceLT, Nat.reduceLeDiff, tyF]
        have hF := h10'
        have hokk : okM m.o := (by unfold okM; simp [k5])
        try simp (config := {maxSteps := 1000000}) only [↓zvN, zvU, ↓up_apply, ↓hv_apply, ↓upO_some, ↓upO_none, ↓ev_tmp, ↓ev_const, ↓ev_func, ↓ev_global, init, Nat.reduceEqDiff, Nat.reduceAdd, Nat.reduceMul, Nat.reduceSub, ↓reduceIte, Int.reduceEq, Int.reduceNe, Nat.reduceLeDiff, one, Value.cells, Int.reduceLE, Int.reduceLT, Int.reduceToNat, add_mk, reduceCtorEq, List.mem_range'_1, true_and, and_true, and_false, false_and, Nat.reduceLT, Nat.reduceLeDiff, tyF, h10, h4, ek]
        have heq : ((ms.map OpM.o).take (k + 1)).flatMap putM = lk ++ [0] ++ m.o.addr := (hput).trans (by simp [tailM, k5, hv6])
        refine ⟨⟨?_, k + 1, _, _, rfl, by rw [List.length_map]; omega, by rw [heq], by rw [heq]; exact hF.own, hstep hokk, hF.more⟩, by simp only [numOf]; omega⟩
        repeat (first | exact Same.hv _ _ _ | refine Same.up (by simp) ?_)
    by_cases k7 : m.o.kind = 7
    · rw [k7] at c06
      have rw2 := Blk.row_eq h6.blk 29 20 (by rw [SOp.len hfit]; omega)
      rw [SOp.cCfg hfit] at rw2
      simp (config := {maxSteps := 1000000}) only [↓zvN, zvU, ↓up_apply, ↓hv_apply, ↓upO_some, ↓upO_none, ↓ev_tmp, ↓ev_const, ↓ev_func, ↓ev_global, init, Nat.reduceEqDiff, Nat.reduceAdd, Nat.reduceMul, Nat.reduceSub, ↓reduceIte, Int.reduceEq, Int.reduceNe, Nat.reduceLeDiff, one, Value.cells, Int.reduceLE, Int.reduceLT, Int.reduceToNat, add_mk, reduceCtorEq, List.mem_range'_1, true_and, and_true, and_false, false_and, Nat.reduceLT, Nat.reduceLeDiff, tyF, h10, h4, c06, rw2]
      refine call_ok Try.call88 (ref_right26 w6 m.o.cfg hfit.cfg) ?_
      rintro _ w7 ⟨rfl, hm7⟩
      have h7 := h6.mono hm7
      by_cases hr : rightM m.o.cfg
      · rw [decide_eq_true hr]
        have rw7 := Blk.row_eq h7.blk 29 20 (by rw [SOp.len hfit]; omega)
        rw [SOp.cCfg hfit] at rw7
        simp (config := {maxSteps := 1000000}) only [↓zvN, zvU, ↓up_apply, ↓hv_apply, ↓upO_some, ↓upO_none, ↓ev_tmp, ↓ev_const, ↓ev_func, ↓ev_global, init, Nat.reduceEqDiff, Nat.reduceAdd, Nat.reduceMul, Nat.reduceSub, ↓reduceIte, Int.reduceEq, Int.reduceNe, Nat.reduceLeDiff, one, Value.cells, Int.reduceLE, Int.reduceLT, Int.reduceToNat, add_mk, reduceCtorEq, List.mem_range'_1, true_and, and_true, and_false, false_and, Nat.reduceLT, Nat.reduceLeDiff, tyF, h10, h4, rw7]
        refine call_ok Try.call89 (ref_encode26 w7 m.o.cfg hfit.cfg) ?_
        rintro _ w8 ⟨A8, c8, rfl, ho8, hm8⟩
        have h8' := h7.mono hm8
        simp (config := {maxSteps := 1000000}) only [↓zvN, zvU, ↓up_apply, ↓hv_apply, ↓upO_some, ↓upO_none, ↓ev_tmp, ↓ev_const, ↓ev_func, ↓ev_global, init, Nat.reduceEqDiff, Nat.reduceAdd, Nat.reduceMul, Nat.reduceSub, ↓reduceIte, Int.reduceEq, Int.reduceNe, Nat.reduceLeDiff, one, Value.cells, Int.reduceLE, Int.reduceLT, Int.reduceToNat, add_mk, reduceCtorEq, List.mem_range'_1, true_and, and_true, and_false, false_and, Nat.reduceLT, Nat.reduceLeDiff, tyF, h10, h4]
        have hl3 := encC_len m.o.cfg
        rw [hfit.cfg] at hl3
        refine RowS.app (h8') ((ho8.cs)) (hl3) (by omega) (by omega) ?_
        intro A9 c9 w9 h9 mw9 gw9
        have hF := h9
        have hokk : okM m.o := (by unfold okM; simp [k7, hr])
        try simp (config := {maxSteps := 1000000}) only [↓zvN, zvU, ↓up_apply, ↓hv_apply, ↓upO_some, ↓upO_none, ↓ev_tmp, ↓ev_const, ↓ev_func, ↓ev_global, init, Nat.reduceEqDiff, Nat.reduceAdd, Nat.reduceMul, Nat.reduceSub, ↓reduceIte, Int.reduceEq, Int.reduceNe, Nat.reduceLeDiff, one, Value.cells, Int.reduceLE, Int.reduceLT, Int.reduceToNat, add_mk, reduceCtorEq, List.mem_range'_1, true_and, and_true, and_false, false_and, Nat.reduceLT, Nat.reduceLeDiff, tyF, h10, h4, ek]
        have heq : ((ms.map OpM.o).take (k + 1)).flatMap putM = lk ++ encC m.o.cfg := (hput).trans (by simp [tailM, k7, hr])
        refine ⟨⟨?_, k + 1, _, _, rfl, by rw [List.length_map]; omega, by rw [heq], by rw [heq]; exact hF.own, hstep hokk, hF.more⟩, by simp only [numOf]; omega⟩
        repeat (first | exact Same.hv _ _ _ | refine Same.up (by simp) ?_)
      · rw [decide_eq_false hr]
        simp (config := {maxSteps := 1000000}) only [↓zvN, zvU, ↓up_apply, ↓hv_apply, ↓upO_some, ↓upO_none, ↓ev_tmp, ↓ev_const, ↓ev_func, ↓ev_global, init, Nat.reduceEqDiff, Nat.reduceAdd, Nat.reduceMul, Nat.reduceSub, ↓reduceIte, Int.reduceEq, Int.reduceNe, Nat.reduceLeDiff, one, Value.cells, Int.reduceLE, Int.reduceLT, Int.reduceToNat, add_mk, reduceCtorEq, List.mem_range'_1, true_and, and_true, and_false, false_and, Nat.reduceLT, Nat.reduceLeDiff, tyF, h10, h4]
        try simp (config := {maxSteps := 1000000}) only [↓zvN, zvU, ↓up_apply, ↓hv_apply, ↓upO_some, ↓upO_none, ↓ev_tmp, ↓ev_const, ↓ev_func, ↓ev_global, init, Nat.reduceEqDiff, Nat.reduceAdd, Nat.reduceMul, Nat.reduceSub, ↓reduceIte, Int.reduceEq, Int.reduceNe, Nat.reduceLeDiff, one, Value.cells, Int.reduceLE, Int.reduceLT, Int.reduceToNat, add_mk, reduceCtorEq, List.mem_range'_1, true_and, and_true, and_false, false_and, Nat.reduceLT, Nat.reduceLeDiff, tyF, h10, h4]
        have hbk : ¬ okM m.o := (by unfold okM; simp [k7, hr])
        have hnone : encM (ms.map OpM.o) = none := by
          unfold encM
          rw [if_neg (fun h => hbk (h m.o (List.mem_map.2 ⟨m, hmm, rfl⟩)))]
        exact ⟨h7.more, fun _ => rfl, fun l h => by rw [hnone] at h; cases h⟩
    simp (config := {maxSteps := 1000000}) only [↓zvN, zvU, ↓up_apply, ↓hv_apply, ↓upO_some, ↓upO_none, ↓ev_tmp, ↓ev_const, ↓ev_func, ↓ev_global, init, Nat.reduceEqDiff, Nat.reduceAdd, Nat.reduceMul, Nat.reduceSub, ↓reduceIte, Int.reduceEq, Int.reduceNe, Nat.reduceLeDiff, one, Value.cells, Int.reduceLE, Int.reduceLT, Int.reduceToNat, add_mk, reduceCtorEq, List.mem_range'_1, true_and, and_true, and_false, false_and, Nat.reduceLT, Nat.reduceLeDiff, tyF, h10, h4, c06, k1, k2, k3, k4, k5, k6, k7, k8]
    try simp (config := {maxSteps := 1000000}) only [↓zvN, zvU, ↓up_apply, ↓hv_apply, ↓upO_some, ↓upO_none, ↓ev_tmp, ↓ev_const, ↓ev_func, ↓ev_global, init, Nat.reduceEqDiff, Nat.reduceAdd, Nat.reduceMul, Nat.reduceSub, ↓reduceIte, Int.reduceEq, Int.reduceNe, Nat.reduceLeDiff, one, Value.cells, Int.reduceLE, Int.reduceLT, Int.reduceToNat, add_mk, reduceCtorEq, List.mem_range'_1, true_and, and_true, and_false, false_and, Nat.reduceLT, Nat.reduceLeDiff, tyF, h10, h4]
    have hbk : ¬ okM m.o := (by unfold okM; simp [k1, k2, k3, k4, k5, k6, k7, k8])
    have hnone : encM (ms.map OpM.o) = none := by
      unfold encM
      rw [if_neg (fun h => hbk (h m.o (List.mem_map.2 ⟨m, hmm, rfl⟩)))]
    exact ⟨h6.more, fun _ => rfl, fun l h => by rw [hnone] at h; cases h⟩
  · obtain rfl : k = ms.length := by omega
    rw [List.take_of_length_le (by simp)] at ho2 hok
    have hsome : encM (ms.map OpM.o) = some ((ms.map OpM.o).flatMap putM) := by
      unfold encM
      rw [if_pos hok]
    rw [List.take_of_length_le (by simp)]
    refine ⟨hm2, (fun h => by rw [hsome] at h; cases h), fun l h => ?_⟩
    rw [hsome] at h
    cases h
    exact ⟨A2, c2, rfl, ho2⟩
end Go.Proofs.Ytloiglnejffmkaa
