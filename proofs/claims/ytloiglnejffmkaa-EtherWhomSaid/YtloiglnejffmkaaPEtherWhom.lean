/-
  EtherWhom of bailifflaw08 returns true for every input and changes nothing that was there.
-/
import Derived.Test.YtloiglnejffmkaaRows
import Derived.Test.YtloiglnejffmkaaLa
import Derived.Test.YtloiglnejffmkaaEtherW
import Derived.WalkKit
import Derived.ProofKit
import Derived.OpenShut
import Derived.ShutString
import Derived.ChangeOld
import Derived.Below
import Derived.SizedLaws
namespace Go.Proofs.Ytloiglnejffmkaa.etherWhom
open Go.ChangeShapes Go.WideShapes Go.ChangeAt Go.RowKit
open Go.ChangeMaps (open_string shut_string)
set_option linter.unusedVariables false
set_option linter.unusedSimpArgs false

theorem own : ownKnob Try.prog.godebug = none := by kernel_rfl
theorem laidOut : laidOutB Try.prog = true := by kernel_rfl

theorem walk (A0 : Option Addr) (n0 c0 : Nat) (x1 : Array Value) (w : World) (h0 : ∃ n, Go.Proofs.RV.Lays Try.prog w n 22 [.slice A0 n0 c0]) (z0 : c0 * Try.prog.bytesOf 5 ≤ reachBytes) (h1 : ∃ n, Go.Proofs.RV.Lays Try.prog w n 33 x1.toList) :
    Calls Try.prog 4 #[.slice A0 n0 c0, .agg x1] w fun e w' => e = .returned (.bool true) ∧ Below w.heap.size w w' := by
  obtain ⟨_, g0⟩ := h0
  obtain ⟨A0, l0, c0, e, hc0, hA0⟩ := g0.byteRow Try.underlying22 Try.underlying5 cells5
  simp only [List.cons.injEq, Value.slice.injEq, and_true] at e
  obtain ⟨rfl, rfl, rfl⟩ := e
  obtain ⟨_, g1⟩ := h1
  obtain ⟨whom, hw, e1⟩ := g1.bytes Try.underlying33 Try.underlying5 cells5 cells33
  obtain rfl : x1 = (whom.map Go.Proofs.RV.byteV).toArray := Array.ext' e1
  exact Calls.mono (Go.Proofs.Ytloiglnejffmkaa.ether_whom w _ l0 _ whom hA0 hc0 hw) fun e w' ⟨v, he, hv, hm⟩ => ⟨by rw [he, hv], hm⟩

set_option maxRecDepth 100000 in
theorem lifted (os : Os) (started : os.Started) (H : Type) (enc : TypeId × Value → H) :
    ReturnsInHanded {} Try.checked os 4 .any (Rows.etherWhomSpec.pre6 enc Try.prog Try.f4 Rows.etherWhomRow.domain false) (Rows.etherWhomSpec.post enc Try.prog Try.f4 false true false false) := by
  refine returnsInHanded_of_change_sized (C := Try.checked) own started (by kernel_rfl) Try.func4
    (ChangeSpec.witness6 (enc := enc) (C := Try.checked) false ⟨#[], #[.slice none 0 0, .agg #[.int .u8 0, .int .u8 0, .int .u8 0, .int .u8 0, .int .u8 0, .int .u8 0, .int .u8 0, .int .u8 0, .int .u8 0, .int .u8 0, .int .u8 0, .int .u8 0]], []⟩ 8 (by kernel_rfl) (by kernel_rfl) (by kernel_rfl) (by kernel_rfl)) ?_
  intro W base args ds gs before hval0 hW hcnd hsz _
  have hval : ∀ (j : Nat) t v, Try.f4.params[j]? = some t → args[j]? = some v → Value.okWide Try.prog W .any base t v := hval0
  have hW' := hW
  obtain ⟨p, q, hA0, hV, rfl, hfz, hnd⟩ := hW
  have hA : DataW.TrodAll enc Try.prog W 0 (fun _ => true) true Try.f4.params.toList args.toList ds p := hA0
  rw [Try.params4] at hA hval
  obtain ⟨v0, vs0, d0, ds0, p0, q0, hargs, rfl, rfl, h0, r0⟩ := trodAll_cons hA
  obtain ⟨v1, vs1, d1, ds1, p1, q1, rfl, rfl, rfl, h1, r1⟩ := trodAll_cons r0
  obtain ⟨rfl, rfl, rfl⟩ := trodAll_nil r1
  obtain rfl : args = #[v0, v1] := by cases args; simp_all
  obtain ⟨rfl, rfl⟩ := trodVars_none hV
  obtain ⟨A0, n0, c0, rfl⟩ := okWide_slice Try.underlying22 (hval 0 22 v0 rfl rfl)
  have k0 := h0
  have lt0 : ∀ x ∈ p0, x.block < W.heap.size := by obtain ⟨m, hm⟩ := k0; exact DataW.trod_lt m _ _ _ hm
  have w0 : ∃ n, Go.Proofs.RV.Lays Try.prog W n 22 [.slice A0 n0 c0] := by
    obtain ⟨fuel, hf⟩ := h0
    exact ⟨fuel, Go.Proofs.RV.lays_of_trod fuel _ _ _ hf⟩
  have z0 : c0 * Try.prog.bytesOf 5 ≤ reachBytes := Go.Proofs.RV.sized_row (fun es sp hd => sized_slice hsz (j := 0) (t := 22) (e := 5) rfl (by rw [hd]; rfl) Try.underlying22) Try.underlying22 h0
  obtain ⟨x1, rfl⟩ := Go.Proofs.RV.okWide_array Try.underlying33 (hval 1 33 v1 rfl rfl)
  have k1 := h1
  have lt1 : ∀ x ∈ p1, x.block < W.heap.size := by obtain ⟨m, hm⟩ := k1; exact DataW.trod_lt m _ _ _ hm
  have w1 : ∃ n, Go.Proofs.RV.Lays Try.prog W n 33 x1.toList := by
    obtain ⟨fuel, hf⟩ := h1
    exact ⟨fuel, Go.Proofs.RV.lays_of_trod fuel _ _ _ hf⟩
  clear hA0 hval0
  refine (walk A0 n0 c0 x1 W w0 z0 w1).mono fun e W' ⟨he, bel⟩ => ?_
  subst he
  exact ⟨_, rfl, _, _, _, [], _, [], hW', trodAll_mk1 (shut_bool Try.underlying4 _), (trodAll_cons_mk (Below.trod laidOut (by kernel_rfl) (of_decide_eq_true (by kernel_rfl)) k0 bel lt0) (trodAll_cons_mk (Below.trod laidOut (by kernel_rfl) (of_decide_eq_true (by kernel_rfl)) k1 bel lt1) trodAll_mk0)), rfl, bel.frame _, fun h => by cases h⟩

theorem over : Rows.etherWhomRow.holds Try.pinned (OpenSpec.ofChange Rows.etherWhomSpec) :=
  OpenClaim.holds_of_wide 4 Try.f4 rfl rfl rfl rfl rfl rfl rfl ⟨rfl, rfl, rfl, rfl, rfl⟩ rfl rfl rfl rfl rfl (by kernel_rfl) Try.func4 (by kernel_rfl)
    (of_decide_eq_true (by kernel_rfl)) (by unfold Func.isWrapper; first | (rw [if_pos (by decide +kernel)]; kernel_rfl) | (rw [if_neg (by decide +kernel)]; exact ⟨rfl, rfl⟩))
    (fun os started H enc _ => lifted os started H enc)

theorem proved : Rows.EtherWhomSaid := over
#print axioms proved
end Go.Proofs.Ytloiglnejffmkaa.etherWhom
