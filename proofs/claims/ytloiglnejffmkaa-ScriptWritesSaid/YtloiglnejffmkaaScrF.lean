/-
  Layer 31: the reference's Parse.
-/
import Derived.Test.YtloiglnejffmkaaScrE
namespace Go.Proofs.Ytloiglnejffmkaa
open Go Go.RowKit Go.Proofs.RV
set_option linter.unusedSimpArgs false
set_option linter.unusedVariables false
set_option maxRecDepth 10000
set_option maxHeartbeats 4000000
theorem take_suf (s : InM) (n : Int) : (s.take n).2.rest <:+ s.rest := by
  unfold InM.take
  split
  · exact List.suffix_refl _
  · exact List.drop_suffix _ _
theorem takeM_suf (k : Int) (s : InM) : (takeM k s).2.rest <:+ s.rest := by
  unfold takeM
  split
  · exact take_suf s 8
  split
  · exact (take_suf _ _).trans ((take_suf _ _).trans ((take_suf _ _).trans (take_suf _ _)))
  split
  · exact take_suf s 16
  split
  · refine (take_suf _ _).trans ?_
    split <;> exact take_suf s 1
  split
  · simp only; split <;> exact take_suf s 160
  split <;> exact List.suffix_refl _
def OpsB (w : World) (ms : List OpM) : Prop := ∀ m ∈ ms, m.o.Fit ∧ Bs w m.A m.o.b ∧ m.o.b.length ≤ m.c
theorem OpsB.more {w w' : World} {ms : List OpM} (h : OpsB w ms) (hm : More w w') : OpsB w' ms := fun m hx => ⟨(h m hx).1, (h m hx).2.1.more hm, (h m hx).2.2⟩
theorem ropE : ElemT Try.prog 86 (.agg ((opZ 0).cells (.slice none 0 0)).toArray) 49 240 := by unfold ElemT; kernel_rfl
def slen (v : Value) : Nat := match v with | .slice _ n _ => n | _ => 0
def RPJ (l : List UInt8) (w : World) (v0 v4 : Value) (w' : World) : Prop :=
  ∃ (ms : List OpM) (A : Option Addr) (c : Nat) (r : List UInt8) (A0 : Option Addr) (c0 : Nat), v0 = .slice A0 r.length c0 ∧ r.length ≤ c0 ∧ Bs w A0 r ∧ v4 = .slice A ms.length c ∧ Own w' w.heap.size 86 49 A ms.length c (ms.flatMap OpM.cells) ∧ OpsB w ms ∧ ms.length + r.length ≤ l.length ∧ parseM l = (parseM r).map (ms.map OpM.o ++ ·) ∧ More w w'
def RParseR (l : List UInt8) (w : World) (v : Value) (w' : World) : Prop :=
  More w w' ∧ (parseM l = none → v = .tuple #[.slice none 0 0, .bool false]) ∧
    ∀ os, parseM l = some os → ∃ (ms : List OpM) (A : Option Addr) (c : Nat), v = .tuple #[.slice A ms.length c, .bool true] ∧ ms.map OpM.o = os ∧ ms.length ≤ l.length ∧ Cs w' A (ms.flatMap OpM.cells) ∧ OpsB w' ms
theorem ref_parse31 (w : World) (A : Option Addr) (l : List UInt8) (c : Nat) (hA : Bs w A l) (hc : l.length ≤ c) (hl : l.length ≤ 1000000) :
    Ret Try.prog 46 #[.slice A l.length c] w (RParseR l w) := by
  refine ret_of Try.func46 rfl (by kernel_rfl) (Nat.le_of_ble_eq_true (by kernel_rfl)) ?_
  simp (config := {maxSteps := 1000000}) only [↓zvN, zvU, ↓up_apply, ↓hv_apply, ↓upO_some, ↓upO_none, ↓ev_tmp, ↓ev_const, ↓ev_func, ↓ev_global, init, Nat.reduceEqDiff, Nat.reduceAdd, Nat.reduceMul, Nat.reduceSub, ↓reduceIte, Int.reduceEq, Int.reduceNe, Nat.reduceLeDiff, one, Value.cells, Int.reduceLE, Int.reduceLT, Int.reduceToNat, add_mk, reduceCtorEq, List.mem_range'_1, true_and, and_true, and_false, false_and, Nat.reduceLT, Nat.reduceLeDiff, tyF]
  refine loop_p (0 :: 4 :: List.range' 5 19) (fun e w' => RPJ l w (e 0) (e 4) w') (fun e _ => slen (e 0)) ?_ ?_
  · refine ⟨[], none, 0, l, A, c, by simp only [hv_apply, up_apply, upO_some, upO_none, init, List.mem_cons, List.mem_range'_1, true_and, and_true, and_false, false_and, Nat.reduceLT, Nat.reduceLeDiff, Nat.reduceAdd, true_or, or_true, if_true, if_false, ↓reduceIte, Nat.reduceEqDiff, false_or, or_false, List.not_mem_nil, List.getElem?_cons_zero, List.getElem?_cons_succ, Option.getD_some] <;> rfl, hc, hA, by simp only [hv_apply, up_apply, upO_some, upO_none, init, List.mem_cons, List.mem_range'_1, true_and, and_true, and_false, false_and, Nat.reduceLT, Nat.reduceLeDiff, Nat.reduceAdd, true_or, or_true, if_true, if_false, ↓reduceIte, Nat.reduceEqDiff, false_or, or_false, List.not_mem_nil, List.getElem?_cons_zero, List.getElem?_cons_succ, Option.getD_some] <;> rfl, Own.nil _ _ _ _, (fun m hm => by cases hm), by simp, ?_, More.refl _⟩
    cases parseM l <;> rfl
  rintro v w2 ⟨ms, A2, c2, r, A0, c0, h0, hc0, hB, h4, ho2, hO2, hL2, hP2, hm2⟩
  simp only [hv_apply, up_apply, upO_some, upO_none, init, List.mem_cons, List.mem_range'_1, true_and, and_true, and_false, false_and, Nat.reduceLT, Nat.reduceLeDiff, Nat.reduceAdd, true_or, or_true, if_true, if_false, ↓reduceIte, Nat.reduceEqDiff, false_or, or_false, List.not_mem_nil, List.getElem?_cons_zero, List.getElem?_cons_succ, Option.getD_some] at h0 h4
  simp (config := {maxSteps := 1000000}) only [↓zvN, zvU, ↓up_apply, ↓hv_apply, ↓upO_some, ↓upO_none, ↓ev_tmp, ↓ev_const, ↓ev_func, ↓ev_global, init, Nat.reduceEqDiff, Nat.reduceAdd, Nat.reduceMul, Nat.reduceSub, ↓reduceIte, Int.reduceEq, Int.reduceNe, Nat.reduceLeDiff, one, Value.cells, Int.reduceLE, Int.reduceLT, Int.reduceToNat, add_mk, reduceCtorEq, List.mem_range'_1, true_and, and_true, and_false, false_and, Nat.reduceLT, Nat.reduceLeDiff, tyF, h0, h4]
  refine ⟨fun h9 => ?_, fun h9 => ?_⟩
  · obtain ⟨x, r, rfl⟩ : ∃ x r', r = x :: r' := by
      cases r with
      | nil => simp at h9
      | cons x r' => exact ⟨x, r', rfl⟩
    have hl2 := hL2
    simp only [List.length_cons] at hl2
    refine call_ok Try.call86 (ref_one w w2 hm2 A0 x r c0 hB hc0 (by omega)) ?_
    rintro v3 w3 ⟨hbad, hok, hm3⟩
    have hfit := takeM_fit x.toNat ⟨r, false⟩
    have hrest := takeM_rest x.toNat ⟨r, false⟩
    have hsuf := takeM_suf x.toNat ⟨r, false⟩
    rw [parseM] at hP2
    generalize takeM x.toNat ⟨r, false⟩ = t at *
    obtain ⟨o, s⟩ := t
    simp only at hbad hok hrest hsuf hfit hP2
    have hm4 := more_alloc w3 (.cells ((opZ 0).cells (.slice none 0 0)).toArray 86)
    have hb4 := Blk.new w3 86 ((opZ 0).cells (.slice none 0 0)).toArray
    have s4 := size_alloc w3 (.cells ((opZ 0).cells (.slice none 0 0)).toArray 86)
    have hz2 := hm2.size
    have hz3 := hm3.size
    cases hsb : s.bad with
    | true =>
      obtain rfl := hbad hsb
      simp (config := {maxSteps := 1000000}) only [↓zvN, zvU, ↓up_apply, ↓hv_apply, ↓upO_some, ↓upO_none, ↓ev_tmp, ↓ev_const, ↓ev_func, ↓ev_global, init, Nat.reduceEqDiff, Nat.reduceAdd, Nat.reduceMul, Nat.reduceSub, ↓reduceIte, Int.reduceEq, Int.reduceNe, Nat.reduceLeDiff, one, Value.cells, Int.reduceLE, Int.reduceLT, Int.reduceToNat, add_mk, reduceCtorEq, List.mem_range'_1, true_and, and_true, and_false, false_and, Nat.reduceLT, Nat.reduceLeDiff, tyF, h0, h4, zerROp]
      generalize w3.alloc (.cells ((opZ 0).cells (.slice none 0 0)).toArray 86) = w4 at hm4 hb4 s4 ⊢
      rw [List.toList_toArray] at hb4
      refine st_all hb4 (by simp [SOp.len (opZ_fit _)]) (SOp.len (opZ_fit 0) _) (fun u hu => SOp.one (opZ 0) (sl := .slice none 0 0) rfl u hu) fun w5 j1 j2 => ?_
      rw [s2_undef]
      simp (config := {maxSteps := 1000000}) only [↓zvN, zvU, ↓up_apply, ↓hv_apply, ↓upO_some, ↓upO_none, ↓ev_tmp, ↓ev_const, ↓ev_func, ↓ev_global, init, Nat.reduceEqDiff, Nat.reduceAdd, Nat.reduceMul, Nat.reduceSub, ↓reduceIte, Int.reduceEq, Int.reduceNe, Nat.reduceLeDiff, one, Value.cells, Int.reduceLE, Int.reduceLT, Int.reduceToNat, add_mk, reduceCtorEq, List.mem_range'_1, true_and, and_true, and_false, false_and, Nat.reduceLT, Nat.reduceLeDiff, tyF, h0, h4]
      refine ⟨j1.below (((hm2.trans hm3).trans hm4)) (by omega), fun _ => rfl, fun os hos => ?_⟩
      rw [hP2, if_pos hsb] at hos
      cases hos
    | false =>
      obtain ⟨A3, c3, rfl, hB3, hc3⟩ := hok hsb
      have hnz : (((r.length + 1 : Nat) : Int) - (s.rest.length : Int)) ≠ 0 := by omega
      simp (config := {maxSteps := 1000000}) only [↓zvN, zvU, ↓up_apply, ↓hv_apply, ↓upO_some, ↓upO_none, ↓ev_tmp, ↓ev_const, ↓ev_func, ↓ev_global, init, Nat.reduceEqDiff, Nat.reduceAdd, Nat.reduceMul, Nat.reduceSub, ↓reduceIte, Int.reduceEq, Int.reduceNe, Nat.reduceLeDiff, one, Value.cells, Int.reduceLE, Int.reduceLT, Int.reduceToNat, add_mk, reduceCtorEq, List.mem_range'_1, true_and, and_true, and_false, false_and, Nat.reduceLT, Nat.reduceLeDiff, tyF, h0, h4, zerROp]
      generalize w3.alloc (.cells ((opZ 0).cells (.slice none 0 0)).toArray 86) = w4 at hm4 hb4 s4 ⊢
      rw [List.toList_toArray] at hb4
      refine st_all hb4 (by simp [SOp.len hfit]) (SOp.len (opZ_fit 0) _) (fun u hu => SOp.one o (sl := .slice A3 o.b.length c3) rfl u (by simpa using hu)) fun w5 j1 j2 => ?_
      rw [s2_undef]
      rw [List.toList_toArray] at j2
      have hv5 := j2.all_eq 49 (SOp.len hfit _)
      simp (config := {maxSteps := 1000000}) only [↓zvN, zvU, ↓up_apply, ↓hv_apply, ↓upO_some, ↓upO_none, ↓ev_tmp, ↓ev_const, ↓ev_func, ↓ev_global, init, Nat.reduceEqDiff, Nat.reduceAdd, Nat.reduceMul, Nat.reduceSub, ↓reduceIte, Int.reduceEq, Int.reduceNe, Nat.reduceLeDiff, one, Value.cells, Int.reduceLE, Int.reduceLT, Int.reduceToNat, add_mk, reduceCtorEq, List.mem_range'_1, true_and, and_true, and_false, false_and, Nat.reduceLT, Nat.reduceLeDiff, tyF, h0, h4, hnz, hv5]
      have s5 := j1.size
      have hm5 : More w w5 := j1.below ((hm2.trans hm3).trans hm4) (by omega)
      have ho5 : Own w5 w.heap.size 86 49 A2 ms.length c2 (ms.flatMap OpM.cells) := Own.wr (((ho2.more hm3).more hm4)) j1 (fun g hg => by have := ho2.atB_ge ⟨_, hg, rfl⟩; simp only at this; omega)
      refine bslice1 Try.underlying76 ropE (by omega) (by omega) (SOp.len hfit _) ?_
      have hm6 := more_alloc w5 (.cells (o.cells (.slice A3 o.b.length c3)).toArray 86)
      have hb6 := Blk.new w5 86 (o.cells (.slice A3 o.b.length c3)).toArray
      have s6 := size_alloc w5 (.cells (o.cells (.slice A3 o.b.length c3)).toArray 86)
      simp (config := {maxSteps := 1000000}) only [↓zvN, zvU, ↓up_apply, ↓hv_apply, ↓upO_some, ↓upO_none, ↓ev_tmp, ↓ev_const, ↓ev_func, ↓ev_global, init, Nat.reduceEqDiff, Nat.reduceAdd, Nat.reduceMul, Nat.reduceSub, ↓reduceIte, Int.reduceEq, Int.reduceNe, Nat.reduceLeDiff, one, Value.cells, Int.reduceLE, Int.reduceLT, Int.reduceToNat, add_mk, reduceCtorEq, List.mem_range'_1, true_and, and_true, and_false, false_and, Nat.reduceLT, Nat.reduceLeDiff, tyF, h0, h4]
      generalize w5.alloc (.cells (o.cells (.slice A3 o.b.length c3)).toArray 86) = w6 at hm6 hb6 s6 ⊢
      rw [List.toList_toArray] at hb6
      refine app_mod (m := 1) (news := o.cells (.slice A3 o.b.length c3)) Try.underlying76 ropE (show ((opZ 0).cells (.slice none 0 0)).length = 49 from SOp.len (opZ_fit 0) _) (by omega) (ho5.more hm6) hb6.cs (by rw [SOp.len hfit]) (SOp.one o (sl := .slice A3 o.b.length c3) rfl) (by simp only [maxLen]; omega) (by omega) (by omega) ?_
      intro A7 c7 w7 ho7 hmod7 hat7
      have hm7 : More w w7 := Mod.more (hm5.trans hm6) hmod7 (fun k hk h => by have := ho5.atB_ge h; omega)
      have g0 : (0 : Int) ≤ ((r.length + 1 : Nat) : Int) - (s.rest.length : Int) := by omega
      have g1 : (((r.length + 1 : Nat) : Int) - (s.rest.length : Int)).toNat ≤ (x :: r).length := by simp only [List.length_cons]; omega
      simp (config := {maxSteps := 1000000}) only [↓zvN, zvU, ↓up_apply, ↓hv_apply, ↓upO_some, ↓upO_none, ↓ev_tmp, ↓ev_const, ↓ev_func, ↓ev_global, init, Nat.reduceEqDiff, Nat.reduceAdd, Nat.reduceMul, Nat.reduceSub, ↓reduceIte, Int.reduceEq, Int.reduceNe, Nat.reduceLeDiff, one, Value.cells, Int.reduceLE, Int.reduceLT, Int.reduceToNat, add_mk, reduceCtorEq, List.mem_range'_1, true_and, and_true, and_false, false_and, Nat.reduceLT, Nat.reduceLeDiff, tyF, h0, h4, g0, g1]
      have hrow : (ms ++ [OpM.mk o A3 c3]).flatMap OpM.cells = ms.flatMap OpM.cells ++ o.cells (.slice A3 o.b.length c3) := by simp [OpM.cells]
      have hdrop : s.rest = (x :: r).drop (((r.length + 1 : Nat) : Int) - (s.rest.length : Int)).toNat := by
        have := List.suffix_iff_eq_drop.1 (hsuf.trans (List.suffix_cons x r))
        rw [List.length_cons] at this
        rw [show (((r.length + 1 : Nat) : Int) - (s.rest.length : Int)).toNat = r.length + 1 - s.rest.length by omega]
        exact this
      have hlen : (x :: r).length - (((r.length + 1 : Nat) : Int) - (s.rest.length : Int)).toNat = s.rest.length := by simp only [List.length_cons]; omega
      have hBn := Cs.advB (k := (((r.length + 1 : Nat) : Int) - (s.rest.length : Int)).toNat) hB hc0
      rw [← hdrop] at hBn
      rw [hlen]
      refine ⟨⟨?_, ms ++ [⟨o, A3, c3⟩], A7, c7, s.rest, _, _, rfl, by simp only [List.length_cons] at hc0; omega, hBn, by simp, by rw [hrow]; simpa using ho7, ?_, by simp; omega, ?_, hm7⟩, ?_⟩
      · repeat (first | exact Same.hv _ _ _ | refine Same.up (by simp) ?_)
      · intro m hm
        rcases List.mem_append.1 hm with h | h
        · exact hO2 m h
        · obtain rfl : m = ⟨o, A3, c3⟩ := by simpa using h
          exact ⟨hfit, hB3, hc3⟩
      · rw [hP2, if_neg (by rw [hsb]; simp), Option.map_map]
        congr 1
        funext y
        simp
      · simp only [slen, List.length_cons]; omega
  · obtain rfl : r = [] := List.eq_nil_of_length_eq_zero (by omega)
    have hp : parseM l = some (ms.map OpM.o) := by rw [hP2]; simp [parseM]
    refine ⟨hm2, fun h => (by rw [hp] at h; cases h), fun os hos => ?_⟩
    rw [hp] at hos
    cases hos
    exact ⟨ms, A2, c2, rfl, rfl, by omega, ho2.cs, OpsB.more hO2 hm2⟩
end Go.Proofs.Ytloiglnejffmkaa
