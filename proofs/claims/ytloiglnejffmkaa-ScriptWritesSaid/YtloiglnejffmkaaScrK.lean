/-
  Layer 31: operations' bytes are read as they were.
-/
import Derived.Test.YtloiglnejffmkaaScrJ
import Derived.Test.YtloiglnejffmkaaCfgI
namespace Go.Proofs.Ytloiglnejffmkaa
open Go Go.RowKit Go.Proofs.RV
set_option linter.unusedSimpArgs false
set_option linter.unusedVariables false
set_option maxRecDepth 10000
set_option maxHeartbeats 4000000
theorem take_app (a r : List UInt8) {n : Nat} (h : a.length = n) : (InM.mk (a ++ r) false).take (n : Int) = (a, ⟨r, false⟩) := by
  subst h
  rw [take_ok (by simp)]
  simp
theorem take_appI (a r : List UInt8) {n : Int} (h : (a.length : Int) = n) : (InM.mk (a ++ r) false).take n = (a, ⟨r, false⟩) := by
  subst h
  exact take_app a r rfl
theorem wrap_ui (x : Int) : IntKind.u64.wrap (IntKind.i64.wrap x) = IntKind.u64.wrap x := by
  simp [IntKind.wrap, IntKind.signed, IntKind.bits]
  omega
theorem wrap_mod (x : Int) : IntKind.u64.wrap x = x % (256 ^ 8 : Nat) := by
  simp [IntKind.wrap, IntKind.signed, IntKind.bits]
theorem cfg_inI {c : List Int} (hc : c.length = 20) (h : rightM c) : ∀ x ∈ c, inI x := by
  intro x hx
  obtain ⟨i, hi, rfl⟩ := List.mem_iff_getElem.1 hx
  have h1 := h i (by omega)
  have e : c.getD i 0 = c[i] := by simp [hi]
  rw [e] at h1
  have hb : ∀ k, k < 20 → -9223372036854775808 ≤ leastC.getD k 0 ∧ mostC.getD k 0 ≤ 9223372036854775807 := by decide
  have := hb i (by omega)
  unfold inI
  omega
theorem op_back (o : SOp) (hf : o.Fit) (hn : o.Num) (hok : okM o) (r : List UInt8) :
    ∃ o', takeM o.kind ⟨tailM o ++ r, false⟩ = (o', ⟨r, false⟩) ∧ o'.Fit ∧ o'.Num ∧ okM o' ∧ putM o' = putM o := by
  have hk0 := hn.k0
  have hk1 := hn.k1
  have hd0 := hn.d0
  have hd1 := hn.d1
  have hb := hn.b
  unfold takeM tailM
  by_cases k1 : o.kind = 1
  · rw [k1, if_pos rfl, if_pos rfl]
    have e := take_app (numB (IntKind.u64.wrap o.t) 8) r (n := 8) (numB_len _ _)
    rw [show ((8 : Nat) : Int) = 8 from rfl] at e
    rw [e]
    refine ⟨_, rfl, ⟨rfl, rfl, rfl⟩, ⟨by simp [opT], by simp [opT], by simp [opT], by simp [opT], by simp [opT]⟩, by simp [okM, opT], ?_⟩
    unfold putM tailM
    simp only [opT, k1, if_true]
    rw [be_numB (wrapu_nonneg _), wrap_ui, wrap_mod, Int.emod_emod_of_dvd _ (Int.dvd_refl _), numB_mod]
  rw [if_neg k1, if_neg k1]
  by_cases k2 : o.kind = 2
  · rw [k2, if_pos rfl, if_pos rfl]
    unfold okM at hok
    simp only [k2, if_true] at hok
    have ew : IntKind.u16.wrap (o.b.length : Int) = o.b.length := wu16 (by omega) (by omega)
    rw [ew]
    have e1 := fun r => take_appI (numB o.d0 8) r (n := 8) (by rw [numB_len]; rfl)
    have e2 := fun r => take_appI (numB o.d1 8) r (n := 8) (by rw [numB_len]; rfl)
    have e3 := fun r => take_appI (numB (o.b.length : Int) 2) r (n := 2) (by rw [numB_len]; rfl)
    have b3 : be (numB (o.b.length : Int) 2) = o.b.length := by
      rw [be_numB (by omega)]
      have : (o.b.length : Int) < 65536 := by omega
      show (o.b.length : Int) % 65536 = _
      omega
    have e4 := fun r => take_appI o.b r (n := be (numB (o.b.length : Int) 2)) (by rw [b3])
    simp only [List.append_assoc, e1, e2, e3, e4]
    have hr0 := be_range (numB o.d0 8)
    have hr1 := be_range (numB o.d1 8)
    refine ⟨_, rfl, ⟨rfl, rfl, rfl⟩, ⟨by simp [opD], by simp [opD], by simp [opD]; omega, by simp [opD]; omega, by simp [opD]; omega⟩, by simp [okM, opD]; omega, ?_⟩
    unfold putM tailM
    simp only [opD, k2, if_true, ew, be_numB hd0, be_numB hd1, numB_mod, show ¬ ((2 : Int) = 1) by decide, if_false]
  rw [if_neg k2, if_neg k2]
  by_cases k4 : o.kind = 4
  · rw [k4, if_pos rfl, if_pos rfl]
    have e := take_appI o.key r (n := 16) (by rw [hf.key]; rfl)
    rw [e]
    have hp : padTo 16 o.key = o.key := by unfold padTo; rw [hf.key]; simp [noBytes]
    refine ⟨_, rfl, ⟨by simp [opK, hp, hf.key], rfl, rfl⟩, ⟨by simp [opK], by simp [opK], by simp [opK], by simp [opK], by simp [opK]⟩, by simp [okM, opK], ?_⟩
    unfold putM tailM
    simp [opK, k4, hp]
  rw [if_neg k4, if_neg k4]
  by_cases k5 : o.kind = 5
  · rw [k5, if_pos rfl, if_pos rfl]
    have e := fun v : UInt8 => take_appI [v] (o.addr ++ r) (n := 1) rfl
    have e2 := take_appI o.addr r (n := 7) (by rw [hf.addr]; rfl)
    have hp : padTo 7 o.addr = o.addr := by unfold padTo; rw [hf.addr]; simp [noBytes]
    cases hv : o.v6 with
    | true =>
      have e' := e 1
      simp only [List.cons_append, List.nil_append] at e'
      have b1 : be [(1 : UInt8)] = 1 := rfl
      simp only [if_true, List.cons_append, e', b1, show ¬ ((1 : Int) < 1) by omega, if_false, e2, hp, decide_true]
      refine ⟨_, rfl, ⟨rfl, by simp [opP, hf.addr], rfl⟩, ⟨by simp [opP], by simp [opP], by simp [opP], by simp [opP], by simp [opP]⟩, by simp [okM, opP], ?_⟩
      unfold putM tailM
      simp [opP, k5, hv]
    | false =>
      have e' := e 0
      simp only [List.cons_append, List.nil_append] at e'
      have b1 : be [(0 : UInt8)] = 0 := rfl
      have d1 : decide ((0 : Int) = 1) = false := rfl
      simp only [Bool.false_eq_true, if_false, List.cons_append, e', b1, show ¬ ((1 : Int) < 0) by omega, e2, hp, d1]
      refine ⟨_, rfl, ⟨rfl, by simp [opP, hf.addr], rfl⟩, ⟨by simp [opP], by simp [opP], by simp [opP], by simp [opP], by simp [opP]⟩, by simp [okM, opP], ?_⟩
      unfold putM tailM
      simp [opP, k5, hv]
  rw [if_neg k5, if_neg k5]
  by_cases k7 : o.kind = 7
  · rw [k7, if_pos rfl, if_pos rfl]
    unfold okM at hok
    have hr : rightM o.cfg := by simpa [k7] using hok
    rw [if_pos hr]
    have e := take_appI (encC o.cfg) r (n := 160) (by rw [encC_len, hf.cfg]; rfl)
    rw [e]
    have hd := (decC_encC hf.cfg (cfg_inI hf.cfg hr)).1 hr
    simp only [hd, if_true]
    refine ⟨_, rfl, ⟨rfl, rfl, by simp [opC, hf.cfg]⟩, ⟨by simp [opC], by simp [opC], by simp [opC], by simp [opC], by simp [opC]⟩, by simp [okM, opC, hr], ?_⟩
    unfold putM tailM
    simp [opC, k7, hr]
  rw [if_neg k7, if_neg k7]
  have h3 : o.kind = 3 ∨ o.kind = 6 ∨ o.kind = 8 := by
    unfold okM at hok
    simp only [k2, k7, if_false] at hok
    omega
  rw [if_pos h3, List.nil_append]
  refine ⟨_, rfl, opZ_fit _, ⟨by simp [opZ]; omega, by simp [opZ]; omega, by simp [opZ], by simp [opZ], by simp [opZ]⟩, ?_, ?_⟩
  · unfold okM
    rcases h3 with h | h | h <;> simp [opZ, h]
  · unfold putM tailM
    rcases h3 with h | h | h <;> simp [opZ, h]
theorem parse_back : ∀ os : List SOp, (∀ o ∈ os, o.Fit ∧ o.Num ∧ okM o) → ∃ os', parseM (os.flatMap putM) = some os' ∧ os'.length = os.length ∧ (∀ o ∈ os', o.Fit ∧ o.Num ∧ okM o) ∧ os'.flatMap putM = os.flatMap putM
  | [], _ => ⟨[], by simp [parseM], rfl, (fun o ho => by cases ho), rfl⟩
  | o :: r, h => by
    obtain ⟨hf, hn, hok⟩ := h o (List.mem_cons_self ..)
    obtain ⟨os', h1, h2, h3, h4⟩ := parse_back r fun o ho => h o (List.mem_cons_of_mem _ ho)
    obtain ⟨o', g1, g2, g3, g4, g5⟩ := op_back o hf hn hok (r.flatMap putM)
    refine ⟨o' :: os', ?_, by simp [h2], ?_, by simp [g5, h4]⟩
    · rw [List.flatMap_cons]
      unfold putM
      rw [List.cons_append, parseM]
      have hk : (((u8 o.kind).toNat : Nat) : Int) = o.kind := by
        have := byteV_u8 hn.k0 hn.k1
        unfold byteV at this
        injection this
      rw [hk, show (tailM o ++ List.flatMap (fun o => u8 o.kind :: tailM o) r) = tailM o ++ r.flatMap putM from rfl, g1, if_neg (by simp), h1]
      rfl
    · intro x hx
      rcases List.mem_cons.1 hx with rfl | hx
      · exact ⟨g2, g3, g4⟩
      · exact h3 x hx
end Go.Proofs.Ytloiglnejffmkaa
