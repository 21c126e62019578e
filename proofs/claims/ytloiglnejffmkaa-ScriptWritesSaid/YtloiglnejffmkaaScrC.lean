/-
  Layer 31: script.Parse.
-/
import Derived.Test.YtloiglnejffmkaaScrB
namespace Go.Proofs.Ytloiglnejffmkaa
open Go Go.RowKit Go.Proofs.RV
set_option linter.unusedSimpArgs false
set_option linter.unusedVariables false
set_option maxRecDepth 10000
set_option maxHeartbeats 4000000

/-- operations of bytes -/
noncomputable def parseM : List UInt8 → Option (List SOp)
  | [] => some []
  | x :: r => if (takeM x.toNat ⟨r, false⟩).2.bad = true then none else (parseM (takeM x.toNat ⟨r, false⟩).2.rest).map ((takeM x.toNat ⟨r, false⟩).1 :: ·)
termination_by l => l.length
decreasing_by
  have := takeM_rest x.toNat ⟨r, false⟩
  simp only [List.length_cons] at *
  omega
/-- an operation in a row -/
structure OpM where
  o : SOp
  A : Option Addr
  c : Nat
def OpM.cells (m : OpM) : List Value := m.o.cells (.slice m.A m.o.b.length m.c)
def OpsO (w : World) (B : Nat) (ms : List OpM) : Prop := ∀ m ∈ ms, m.o.Fit ∧ OpO w B m.o m.A m.c
theorem OpM.len {m : OpM} (h : m.o.Fit) : m.cells.length = 49 := SOp.len h _
theorem OpsO.more {w w' : World} {B : Nat} {ms : List OpM} (h : OpsO w B ms) (hm : More w w') : OpsO w' B ms := fun m hx => ⟨(h m hx).1, Own.more (h m hx).2 hm⟩
theorem OpsO.but {w w' : World} {B q : Nat} {ms : List OpM} (h : OpsO w B ms) (hb : But q w w') (hq : q < B) : OpsO w' B ms := fun m hx => ⟨(h m hx).1, Mod.own hb (h m hx).2 fun x hx' => by
  have := Own.atB_ge (h m hx).2 ⟨x, hx', rfl⟩
  omega⟩
theorem OpsO.app {w w' : World} {B B' s n c : Nat} {A : Option Addr} {xs : List Value} {ms : List OpM} (h : OpsO w B ms) (hm : Mod (atB A) w w') (ho : Own w B' 159 s A n c xs) : OpsO w' B ms := fun m hx => ⟨(h m hx).1, Mod.own hm (h m hx).2 (own_apart ho (h m hx).2 (by decide))⟩
theorem opE : ElemT Try.prog 159 (.agg ((opZ 0).cells (.slice none 0 0)).toArray) 49 240 := by unfold ElemT; kernel_rfl
def lenAt (w : World) (q : Nat) : Nat := match w.cell? ⟨q, 0, none⟩ with | some (.slice _ n _) => n | _ => 0
theorem InW.lenAt {w : World} {F : Nat → Prop} {q : Nat} {s : InM} (h : InW w F q s) : lenAt w q = s.rest.length := by
  obtain ⟨A, c, hb, _⟩ := h
  unfold Proofs.Ytloiglnejffmkaa.lenAt
  rw [hb.cell]
  rfl
def PI (l : List UInt8) (os : List SOp) (s : InM) : Prop := (s.bad = false ∧ parseM l = (parseM s.rest).map (os ++ ·)) ∨ (s.bad = true ∧ parseM l = none)
theorem PI.step {l : List UInt8} {os : List SOp} {x : UInt8} {r : List UInt8} (h : PI l os ⟨x :: r, false⟩) : PI l (os ++ [(takeM x.toNat ⟨r, false⟩).1]) (takeM x.toNat ⟨r, false⟩).2 := by
  rcases h with ⟨_, h⟩ | ⟨h, _⟩
  · rw [parseM] at h
    cases hb : (takeM x.toNat ⟨r, false⟩).2.bad with
    | true =>
      rw [hb, if_pos rfl] at h
      exact .inr ⟨hb, h⟩
    | false =>
      rw [hb, if_neg (by simp)] at h
      refine .inl ⟨hb, ?_⟩
      rw [h, Option.map_map]
      congr 1
      funext y
      simp
  · cases h
def ParseR (l : List UInt8) (w : World) (v : Value) (w' : World) : Prop :=
  More w w' ∧ (parseM l = none → v = .tuple #[.slice none 0 0, .int .i64 2]) ∧
    ∀ os, parseM l = some os → ∃ (ms : List OpM) (A : Option Addr) (c : Nat), v = .tuple #[.slice A ms.length c, .int .i64 0] ∧ ms.map OpM.o = os ∧ ms.length ≤ l.length ∧ Own w' w.heap.size 159 49 A ms.length c (ms.flatMap OpM.cells) ∧ OpsO w' w.heap.size ms
def ParseJ (l : List UInt8) (w : World) (F : Nat → Prop) (q : Nat) (v4 : Value) (w' : World) : Prop :=
  ∃ (ms : List OpM) (A : Option Addr) (c : Nat) (s : InM), v4 = .slice A ms.length c ∧ Own w' (q + 1) 159 49 A ms.length c (ms.flatMap OpM.cells) ∧ OpsO w' (q + 1) ms ∧ InW w' F q s ∧ ms.length + s.rest.length ≤ l.length ∧ PI l (ms.map OpM.o) s ∧ More w w'
theorem script_parse (w : World) (A : Option Addr) (l : List UInt8) (c : Nat) (hA : Bs w A l) (hl : l.length ≤ 4000000) :
    Ret Try.prog 45 #[.slice A l.length c] w (ParseR l w) := by
  refine ret_of Try.func45 rfl (by kernel_rfl) (Nat.le_of_ble_eq_true (by kernel_rfl)) ?_
  simp (config := {maxSteps := 1000000}) only [↓zvD, zvU, ↓up_apply, ↓hv_apply, ↓upO_some, ↓upO_none, ↓ev_tmp, ↓ev_const, ↓ev_func, ↓ev_global, init, Nat.reduceEqDiff, Nat.reduceAdd, Nat.reduceMul, Nat.reduceSub, ↓reduceIte, Int.reduceEq, Int.reduceNe, Nat.reduceLeDiff, one, Value.cells, Int.reduceLE, Int.reduceLT, Int.reduceToNat, add_mk, reduceCtorEq, List.mem_range'_1, true_and, and_true, and_false, false_and, Nat.reduceLT, Nat.reduceLeDiff, tyF]
  refine call_ok Try.call18 (cur_new w A l c hA hl) ?_
  rintro _ w1 ⟨q, rfl, hq, hI1, hm1⟩
  simp (config := {maxSteps := 1000000}) only [↓zvD, zvU, ↓up_apply, ↓hv_apply, ↓upO_some, ↓upO_none, ↓ev_tmp, ↓ev_const, ↓ev_func, ↓ev_global, init, Nat.reduceEqDiff, Nat.reduceAdd, Nat.reduceMul, Nat.reduceSub, ↓reduceIte, Int.reduceEq, Int.reduceNe, Nat.reduceLeDiff, one, Value.cells, Int.reduceLE, Int.reduceLT, Int.reduceToNat, add_mk, reduceCtorEq, List.mem_range'_1, true_and, and_true, and_false, false_and, Nat.reduceLT, Nat.reduceLeDiff, tyF]
  generalize hFF : (fun k => w.heap.size ≤ k ∧ k < q) = F at hI1
  have hF : ∀ k, F k → w.heap.size ≤ k ∧ k < q := fun k hk => by rw [← hFF] at hk; exact hk
  refine loop_p (4 :: List.range' 8 10) (fun e w' => ParseJ l w F q (e 4) w') (fun _ w' => lenAt w' q) ?_ ?_
  · refine ⟨[], none, 0, _, by simp only [hv_apply, up_apply, upO_some, upO_none, init, List.mem_cons, List.mem_range'_1, true_and, and_true, and_false, false_and, Nat.reduceLT, Nat.reduceLeDiff, Nat.reduceAdd, true_or, or_true, if_true, if_false, ↓reduceIte, Nat.reduceEqDiff, false_or, or_false, List.not_mem_nil, List.getElem?_cons_zero, List.getElem?_cons_succ, Option.getD_some] <;> rfl, Own.nil _ _ _ _, (fun m hm => by cases hm), hI1, by simp, .inl ⟨rfl, ?_⟩, hm1⟩
    cases parseM l <;> rfl
  rintro v w2 ⟨ms, A2, c2, s, h4, ho2, hO2, hI2, hL2, hP2, hm2⟩
  simp only [hv_apply, up_apply, upO_some, upO_none, init, List.mem_cons, List.mem_range'_1, true_and, and_true, and_false, false_and, Nat.reduceLT, Nat.reduceLeDiff, Nat.reduceAdd, true_or, or_true, if_true, if_false, ↓reduceIte, Nat.reduceEqDiff, false_or, or_false, List.not_mem_nil, List.getElem?_cons_zero, List.getElem?_cons_succ, Option.getD_some] at h4
  have hq2 : q < w2.heap.size := by obtain ⟨_, _, h, _⟩ := hI2; exact h.lt
  have e2 := hI2.lenAt
  simp (config := {maxSteps := 1000000}) only [↓zvD, zvU, ↓up_apply, ↓hv_apply, ↓upO_some, ↓upO_none, ↓ev_tmp, ↓ev_const, ↓ev_func, ↓ev_global, init, Nat.reduceEqDiff, Nat.reduceAdd, Nat.reduceMul, Nat.reduceSub, ↓reduceIte, Int.reduceEq, Int.reduceNe, Nat.reduceLeDiff, one, Value.cells, Int.reduceLE, Int.reduceLT, Int.reduceToNat, add_mk, reduceCtorEq, List.mem_range'_1, true_and, and_true, and_false, false_and, Nat.reduceLT, Nat.reduceLeDiff, tyF, h4]
  refine call_ok Try.call21 (cur_left w2 F q s hI2) ?_
  rintro _ w3 ⟨rfl, rfl⟩
  simp (config := {maxSteps := 1000000}) only [↓zvD, zvU, ↓up_apply, ↓hv_apply, ↓upO_some, ↓upO_none, ↓ev_tmp, ↓ev_const, ↓ev_func, ↓ev_global, init, Nat.reduceEqDiff, Nat.reduceAdd, Nat.reduceMul, Nat.reduceSub, ↓reduceIte, Int.reduceEq, Int.reduceNe, Nat.reduceLeDiff, one, Value.cells, Int.reduceLE, Int.reduceLT, Int.reduceToNat, add_mk, reduceCtorEq, List.mem_range'_1, true_and, and_true, and_false, false_and, Nat.reduceLT, Nat.reduceLeDiff, tyF, h4]
  refine ⟨fun h9 => ?_, fun h9 => ?_⟩
  · obtain ⟨x, r, rfl⟩ : ∃ x r, s = ⟨x :: r, false⟩ := by
      unfold InM.left at h9
      cases hb : s.bad with
      | true => rw [hb] at h9; simp at h9
      | false =>
        rw [hb] at h9
        obtain ⟨rest, bad⟩ := s
        cases rest with
        | nil => simp at h9
        | cons x r => exact ⟨x, r, by simp at hb; rw [hb]⟩
    have ht : (InM.mk (x :: r) false).take 1 = ([x], ⟨r, false⟩) := take_ok (n := 1) (by simp)
    simp only [List.length_cons] at hL2 e2
    have hbe : be [x] = (x.toNat : Int) := by simp [be]
    refine call_ok Try.call76 (cur_u8 w3 _ q _ hI2 (by simp only [List.length_cons]; omega)) ?_
    rintro _ w4 ⟨rfl, hI4, hbt4⟩
    rw [ht] at hI4
    rw [ht, hbe]
    try simp (config := {maxSteps := 1000000}) only [↓zvD, zvU, ↓up_apply, ↓hv_apply, ↓upO_some, ↓upO_none, ↓ev_tmp, ↓ev_const, ↓ev_func, ↓ev_global, init, Nat.reduceEqDiff, Nat.reduceAdd, Nat.reduceMul, Nat.reduceSub, ↓reduceIte, Int.reduceEq, Int.reduceNe, Nat.reduceLeDiff, one, Value.cells, Int.reduceLE, Int.reduceLT, Int.reduceToNat, add_mk, reduceCtorEq, List.mem_range'_1, true_and, and_true, and_false, false_and, Nat.reduceLT, Nat.reduceLeDiff, tyF]
    refine call_ok Try.call85 (script_take w4 F q _ _ hI4 (by show r.length ≤ 4000000; omega) (fun a ha => by have := hF a ha; have := hbt4.size; omega)) ?_
    rintro _ w5 ⟨A5, c5, rfl, hO5, hI5, hbt5⟩
    have hfit := takeM_fit x.toNat ⟨r, false⟩
    have hrest := takeM_rest x.toNat ⟨r, false⟩
    simp only at hrest
    have hP5 := hP2.step
    generalize hoo : (takeM x.toNat ⟨r, false⟩).1 = o at *
    generalize hss : (takeM x.toNat ⟨r, false⟩).2 = s5 at *
    have hbt := hbt4.trans hbt5
    have ho5 : Own w5 (q + 1) 159 49 A2 ms.length c2 (ms.flatMap OpM.cells) := Mod.own hbt ho2 (fun x hx => by have := ho2.atB_ge ⟨x, hx, rfl⟩; omega)
    have hOs5 := hO2.but hbt (by omega)
    have sz5 := hbt.size
    have sz4 := hbt4.size
    have hm5 : More w w5 := more_but hm2 hbt hq
    simp (config := {maxSteps := 1000000}) only [↓zvD, zvU, ↓up_apply, ↓hv_apply, ↓upO_some, ↓upO_none, ↓ev_tmp, ↓ev_const, ↓ev_func, ↓ev_global, init, Nat.reduceEqDiff, Nat.reduceAdd, Nat.reduceMul, Nat.reduceSub, ↓reduceIte, Int.reduceEq, Int.reduceNe, Nat.reduceLeDiff, one, Value.cells, Int.reduceLE, Int.reduceLT, Int.reduceToNat, add_mk, reduceCtorEq, List.mem_range'_1, true_and, and_true, and_false, false_and, Nat.reduceLT, Nat.reduceLeDiff, tyF, h4]
    refine bslice1 Try.underlying73 opE (by omega) (by omega) (SOp.len hfit _) ?_
    have hm6 := more_alloc w5 (.cells (o.cells (.slice A5 o.b.length c5)).toArray 159)
    have hb6 := Blk.new w5 159 (o.cells (.slice A5 o.b.length c5)).toArray
    have s6 := size_alloc w5 (.cells (o.cells (.slice A5 o.b.length c5)).toArray 159)
    simp (config := {maxSteps := 1000000}) only [↓zvD, zvU, ↓up_apply, ↓hv_apply, ↓upO_some, ↓upO_none, ↓ev_tmp, ↓ev_const, ↓ev_func, ↓ev_global, init, Nat.reduceEqDiff, Nat.reduceAdd, Nat.reduceMul, Nat.reduceSub, ↓reduceIte, Int.reduceEq, Int.reduceNe, Nat.reduceLeDiff, one, Value.cells, Int.reduceLE, Int.reduceLT, Int.reduceToNat, add_mk, reduceCtorEq, List.mem_range'_1, true_and, and_true, and_false, false_and, Nat.reduceLT, Nat.reduceLeDiff, tyF, h4]
    generalize w5.alloc (.cells (o.cells (.slice A5 o.b.length c5)).toArray 159) = w6 at hm6 hb6 s6 ⊢
    rw [List.toList_toArray] at hb6
    refine app_mod (m := 1) (news := o.cells (.slice A5 o.b.length c5)) Try.underlying73 opE (show ((opZ 0).cells (.slice none 0 0)).length = 49 from SOp.len (opZ_fit 0) _) (by omega) (ho5.more hm6) hb6.cs (by rw [SOp.len hfit]) (SOp.one o (sl := .slice A5 o.b.length c5) rfl) (by simp only [maxLen]; omega) (by omega) (by omega) ?_
    intro A7 c7 w7 ho7 hmod7 hat7
    have hOs7 : OpsO w7 (q + 1) (ms ++ [⟨o, A5, c5⟩]) := by
      refine OpsO.app (w := w6) (fun m hm => ?_) hmod7 (ho5.more hm6)
      rcases List.mem_append.1 hm with h | h
      · exact (hOs5.more hm6) m h
      · obtain rfl : m = ⟨o, A5, c5⟩ := by simpa using h
        exact ⟨hfit, Own.more (Own.mono hO5 (by omega)) hm6⟩
    have hnat : ∀ k, k ≤ q → ¬ atB A2 k := fun k hk h => by have := ho5.atB_ge h; omega
    have hI7 := (hI5.more hm6).mod hmod7 (hnat q (Nat.le_refl _)) (fun k hk => hnat k (by have := hF k hk; omega))
    have hm7 : More w w7 := Mod.more (hm5.trans hm6) hmod7 (fun k hk => hnat k (by omega))
    have e7 := hI7.lenAt
    simp (config := {maxSteps := 1000000}) only [↓zvD, zvU, ↓up_apply, ↓hv_apply, ↓upO_some, ↓upO_none, ↓ev_tmp, ↓ev_const, ↓ev_func, ↓ev_global, init, Nat.reduceEqDiff, Nat.reduceAdd, Nat.reduceMul, Nat.reduceSub, ↓reduceIte, Int.reduceEq, Int.reduceNe, Nat.reduceLeDiff, one, Value.cells, Int.reduceLE, Int.reduceLT, Int.reduceToNat, add_mk, reduceCtorEq, List.mem_range'_1, true_and, and_true, and_false, false_and, Nat.reduceLT, Nat.reduceLeDiff, tyF, h4]
    have hrow : (ms ++ [OpM.mk o A5 c5]).flatMap OpM.cells = ms.flatMap OpM.cells ++ o.cells (.slice A5 o.b.length c5) := by simp [OpM.cells]
    refine ⟨⟨?_, ms ++ [⟨o, A5, c5⟩], A7, c7, _, by simp, by rw [hrow]; simpa using ho7, hOs7, hI7, by simp; omega, by simpa using hP5, hm7⟩, by omega⟩
    repeat (first | exact Same.hv _ _ _ | refine Same.up (by simp) ?_)
  · have hend : (s.bad = true ∧ parseM l = none) ∨ (s.bad = false ∧ parseM l = some (ms.map OpM.o)) := by
      rcases hP2 with ⟨hb, h⟩ | ⟨hb, h⟩
      · right
        refine ⟨hb, ?_⟩
        unfold InM.left at h9
        rw [hb] at h9
        have : s.rest = [] := List.eq_nil_of_length_eq_zero (by simpa using h9)
        rw [h, this]
        simp [parseM]
      · exact .inl ⟨hb, h⟩
    refine call_ok Try.call35 (cur_bad w3 _ q s hI2) ?_
    rintro _ w4 ⟨rfl, rfl⟩
    rcases hend with ⟨hb, h⟩ | ⟨hb, h⟩
    · rw [hb]
      simp (config := {maxSteps := 1000000}) only [↓zvD, zvU, ↓up_apply, ↓hv_apply, ↓upO_some, ↓upO_none, ↓ev_tmp, ↓ev_const, ↓ev_func, ↓ev_global, init, Nat.reduceEqDiff, Nat.reduceAdd, Nat.reduceMul, Nat.reduceSub, ↓reduceIte, Int.reduceEq, Int.reduceNe, Nat.reduceLeDiff, one, Value.cells, Int.reduceLE, Int.reduceLT, Int.reduceToNat, add_mk, reduceCtorEq, List.mem_range'_1, true_and, and_true, and_false, false_and, Nat.reduceLT, Nat.reduceLeDiff, tyF, h4]
      exact ⟨hm2, fun _ => rfl, fun os ho => by rw [h] at ho; cases ho⟩
    · rw [hb]
      simp (config := {maxSteps := 1000000}) only [↓zvD, zvU, ↓up_apply, ↓hv_apply, ↓upO_some, ↓upO_none, ↓ev_tmp, ↓ev_const, ↓ev_func, ↓ev_global, init, Nat.reduceEqDiff, Nat.reduceAdd, Nat.reduceMul, Nat.reduceSub, ↓reduceIte, Int.reduceEq, Int.reduceNe, Nat.reduceLeDiff, one, Value.cells, Int.reduceLE, Int.reduceLT, Int.reduceToNat, add_mk, reduceCtorEq, List.mem_range'_1, true_and, and_true, and_false, false_and, Nat.reduceLT, Nat.reduceLeDiff, tyF, h4]
      refine ⟨hm2, (fun ho => by rw [h] at ho; cases ho), fun os ho => ?_⟩
      rw [h] at ho
      cases ho
      exact ⟨ms, A2, c2, rfl, rfl, by omega, ho2.mono (by omega), fun m hx => ⟨(hO2 m hx).1, Own.mono (hO2 m hx).2 (by omega)⟩⟩
end Go.Proofs.Ytloiglnejffmkaa
