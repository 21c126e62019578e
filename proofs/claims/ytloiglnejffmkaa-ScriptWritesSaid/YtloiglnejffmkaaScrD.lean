/-
  Layer 31: the reference's operations of bytes.
-/
import Derived.Test.YtloiglnejffmkaaScrC
import Derived.Test.YtloiglnejffmkaaCfgG
namespace Go.Proofs.Ytloiglnejffmkaa
open Go Go.RowKit Go.Proofs.RV
set_option linter.unusedSimpArgs false
set_option linter.unusedVariables false
set_option maxRecDepth 10000
set_option maxHeartbeats 4000000

theorem draw_finB {P : Program} {id : Nat} {l : List Oper} {e0 : Env} {w0 : World} {K : Env → World → Prop} (B : Nat) (hB : B ≤ w0.heap.size) (T : TypeId) (V : List Value) (m : Nat) (D : List (List Nat)) (fs : List (Nat × (Value → World → Prop))) (hm : P.follows .mixedOrders = true) (hD : okD l.toArray D = true) (hT : okT l.toArray D m = true)
    (hst : ∀ x ∈ fs, ∀ v a b, Fin B T V a b → x.2 v a → x.2 v b)
    (hv : vc P B (Fin B T V) l.toArray D (RV.look fs) w0 0 (l.take m) e0 [] (Stop (fun e w => opsP P l.toArray (l.drop m) e w K) .mk)) : drawP P id l.toArray e0 w0 K :=
  draw_rg B (Fin B T V) D _ hm hD (fun _ _ _ h k => h.trans k) (Fin.refl _ T V) (Fin.of_more (below_drawn _ _) hB) (fun _ h => h.below) (look_all fs hst) m hT (by simpa [Stop] using hv)
/-- what the reference still has -/
def nrm (s : InM) : List UInt8 := if s.bad = true then [] else s.rest
def RIs (w : World) (s : InM) (A : Option Addr) (c : Nat) : Prop := Bs w A (nrm s) ∧ (nrm s).length ≤ c
theorem RIs.more {w w' : World} {s : InM} {A : Option Addr} {c : Nat} (h : RIs w s A c) (hm : More w w') : RIs w' s A c := ⟨h.1.more hm, h.2⟩
theorem nrm_bad {s : InM} (h : s.bad = true) : nrm s = [] := by unfold nrm; rw [if_pos h]
theorem nrm_ok {s : InM} (h : s.bad = false) : nrm s = s.rest := by unfold nrm; rw [if_neg (by simp [h])]
theorem nrm_len (s : InM) : (nrm s).length ≤ s.rest.length := by unfold nrm; split <;> simp
theorem take_no {s : InM} {m : Int} (h : s.bad = true ∨ m < 0 ∨ (s.rest.length : Int) < m) : s.take m = ([], ⟨s.rest, true⟩) := by unfold InM.take; rw [if_pos h]
theorem nrm_cond (s : InM) (m : Int) : (s.bad = true ∨ m < 0 ∨ ((nrm s).length : Int) < m) ↔ (s.bad = true ∨ m < 0 ∨ (s.rest.length : Int) < m) := by
  cases h : s.bad
  · rw [nrm_ok h]
  · simp
theorem refI_raw (w0 w : World) (s : InM) (A : Option Addr) (c : Nat) (m : Int) (h : RIs w0 s A c) (hw : More w0 w) :
    Ret Try.prog 34 #[rin A (nrm s).length c s.bad, .int .i64 m] w fun v w' => ∃ A1 c1 A' c', v = .tuple #[.slice A1 (s.take m).1.length c1, rin A' (nrm (s.take m).2).length c' (s.take m).2.bad] ∧ Bs w0 A1 (s.take m).1 ∧ (s.take m).1.length ≤ c1 ∧ RIs w0 (s.take m).2 A' c' ∧ More w w' := by
  refine Ret.mono (ref_raw w A (nrm s).length c s.bad m h.2) ?_
  rintro v w' ⟨rfl, hm⟩
  by_cases hc : s.bad = true ∨ m < 0 ∨ (s.rest.length : Int) < m
  · rw [if_pos ((nrm_cond s m).2 hc), take_no hc]
    exact ⟨none, 0, none, 0, rfl, Cs.nil _ _, by simp, ⟨Cs.nil _ _, by simp [nrm]⟩, hm⟩
  · rw [if_neg (fun hh => hc ((nrm_cond s m).1 hh))]
    have hb : s.bad = false := by simpa using fun hh => hc (.inl hh)
    have e : s.take m = (s.rest.take m.toNat, ⟨s.rest.drop m.toNat, false⟩) := by unfold InM.take; rw [if_neg hc]
    have hl : m.toNat ≤ s.rest.length := by omega
    have hn := nrm_ok hb
    rw [e, hn]
    rw [RIs, hn] at h
    refine ⟨A, c, RV.adv A c m.toNat 1, c - m.toNat, ?_, Cs.takeB h.1 m.toNat, by simp; omega, ⟨Cs.advB h.1 h.2, ?_⟩, hm⟩
    · rw [nrm_ok rfl]
      simp [List.length_take, Nat.min_eq_left hl]
    · rw [nrm_ok rfl]
      simp; omega
theorem refI_take (w0 w : World) (s : InM) (A : Option Addr) (c m : Nat) (h : RIs w0 s A c) (hw : More w0 w) (h8 : m ≤ 8) :
    Ret Try.prog 30 #[rin A (nrm s).length c s.bad, .int .i64 m] w fun v w' => ∃ A' c', v = .tuple #[.int .u64 (be (s.take m).1), rin A' (nrm (s.take m).2).length c' (s.take m).2.bad] ∧ RIs w0 (s.take m).2 A' c' ∧ More w w' := by
  by_cases hc : s.bad = true ∨ (m : Int) < 0 ∨ (s.rest.length : Int) < m
  · refine Ret.mono (ref_take_bad w A (nrm s).length c s.bad m h.2 ((nrm_cond s m).2 hc)) ?_
    rintro v w' ⟨rfl, hm⟩
    rw [take_no hc]
    exact ⟨none, 0, rfl, ⟨Cs.nil _ _, by simp [nrm]⟩, hm⟩
  · have hb : s.bad = false := by simpa using fun hh => hc (.inl hh)
    have e : s.take m = (s.rest.take m, ⟨s.rest.drop m, false⟩) := by unfold InM.take; rw [if_neg hc]; simp
    have hn := nrm_ok hb
    rw [RIs, hn] at h
    rw [hn, hb, e]
    refine Ret.mono (ref_take_ok w A s.rest c m (h.1.more hw) h.2 h8 (by omega)) ?_
    rintro v w' ⟨rfl, hm⟩
    refine ⟨RV.adv A c m 1, c - m, ?_, ⟨Cs.advB h.1 h.2, ?_⟩, hm⟩
    · rw [nrm_ok rfl]
      simp
    · rw [nrm_ok rfl]
      simp; omega
theorem zerROp : zer Try.prog 86 = some (.agg ((opZ 0).cells (.slice none 0 0)).toArray) := by rw [zer86]; rfl
theorem rop_build (k : Int) (w0 : World) (K : Value → Prop) : pureP Try.prog (Instr.build 86 #[(0, .int .u8 k)]) K = K (.agg ((opZ k).cells (.slice none 0 0)).toArray) :=
  build_of ((opZ k).cells (.slice none 0 0)) (by kernel_rfl) zerROp (by kernel_rfl) w0 K
theorem rop_build0 (w0 : World) (K : Value → Prop) : pureP Try.prog (Instr.build 86 #[]) K = K (.agg ((opZ 0).cells (.slice none 0 0)).toArray) :=
  build_of ((opZ 0).cells (.slice none 0 0)) (by kernel_rfl) zerROp (by kernel_rfl) w0 K
theorem padTo_set {x : List UInt8} {i n : Nat} (hi : i < x.length) (hn : x.length ≤ n) : (padTo n (x.take i)).set i (x.getD i 0) = padTo n (x.take (i + 1)) := by
  have e1 : (x.take i).length = i := by simp; omega
  have e2 : (x.take (i + 1)).length = i + 1 := by simp; omega
  have e3 : noBytes (n - i) = 0 :: noBytes (n - (i + 1)) := by
    unfold noBytes
    rw [show n - i = (n - (i + 1)) + 1 by omega, List.replicate_succ]
  have e4 : x.getD i 0 = x[i] := by simp [hi]
  unfold padTo
  rw [e1, e2, e3, List.set_append_right _ _ (by omega), e1, Nat.sub_self, List.set_cons_zero, List.take_succ_eq_append_getElem hi, List.append_assoc, e4]
  rfl
theorem opK_set (k : Int) (sl : Value) {x : List UInt8} {i : Nat} (hi : i < x.length) (hn : x.length ≤ 16) : ((opK k (padTo 16 (x.take i))).cells sl).set (5 + i) (.int .u8 (bt x i)) = (opK k (padTo 16 (x.take (i + 1)))).cells sl := by
  rw [← padTo_set hi hn]
  have hl : (padTo 16 (x.take i)).length = 16 := padTo_len (by simp; omega)
  have e : Value.int .u8 (bt x i) = byteV (x.getD i 0) := rfl
  rw [e, Nat.add_comm 5 i]
  simp only [SOp.cells, opK, List.set_cons_succ, List.map_set]
  rw [List.set_append_left _ _ (by rw [List.length_map, hl]; omega)]
theorem opP_set (k : Int) (b : Bool) (sl : Value) {x : List UInt8} {i : Nat} (hi : i < x.length) (hn : x.length ≤ 7) : ((opP k b (padTo 7 (x.take i))).cells sl).set (22 + i) (.int .u8 (bt x i)) = (opP k b (padTo 7 (x.take (i + 1)))).cells sl := by
  rw [← padTo_set hi hn]
  have hl : (padTo 7 (x.take i)).length = 7 := padTo_len (by simp; omega)
  have h16 : ((noBytes 16).map byteV).length = 16 := by rw [List.length_map, noB_len]
  have e : Value.int .u8 (bt x i) = byteV (x.getD i 0) := rfl
  rw [e, show 22 + i = i + 17 + 5 by omega]
  simp only [SOp.cells, opP, List.set_cons_succ, List.map_set]
  rw [List.set_append_right _ _ (by omega), h16, show i + 17 - 16 = i + 1 by omega, List.set_cons_succ, List.set_append_left _ _ (by rw [List.length_map, hl]; omega)]
def OneR (w0 w : World) (n : Nat) (t : SOp × InM) (v : Value) (w' : World) : Prop :=
  (t.2.bad = true → v = .tuple #[.agg ((opZ 0).cells (.slice none 0 0)).toArray, .int .i64 0]) ∧
  (t.2.bad = false → ∃ A c, v = .tuple #[.agg (t.1.cells (.slice A t.1.b.length c)).toArray, .int .i64 ((n : Int) - t.2.rest.length)] ∧ Bs w0 A t.1.b ∧ t.1.b.length ≤ c) ∧ More w w'
end Go.Proofs.Ytloiglnejffmkaa
