/-
  TableFull of bailifflaw21 returns true for every input and changes nothing that was there.
-/
import Derived.Test.YtimhcjakpdebjaaRows
import Derived.Test.YtimhcjakpdebjaaLa
import Derived.Test.YtimhcjakpdebjaaLaw21F
import Derived.WalkKit
import Derived.ProofKit
import Derived.OpenShut
import Derived.ShutString
import Derived.ChangeOld
import Derived.Below
import Derived.SizedLaws
namespace Go.Proofs.Ytimhcjakpdebjaa.tableFull
open Go.ChangeShapes Go.WideShapes Go.ChangeAt Go.RowKit
open Go.ChangeMaps (open_string shut_string)
set_option linter.unusedVariables false
set_option linter.unusedSimpArgs false

theorem own : ownKnob Try.prog.godebug = none := by kernel_rfl
theorem laidOut : laidOutB Try.prog = true := by kernel_rfl

theorem walk (a0 : Int) (a1 : Int) (w : World) (h0 : IntKind.u8.min ≤ a0 ∧ a0 ≤ IntKind.u8.max) (h1 : IntKind.u8.min ≤ a1 ∧ a1 ≤ IntKind.u8.max) :
    Calls Try.prog 4 #[.int .u8 a0, .int .u8 a1] w fun e w' => e = .returned (.bool true) ∧ Below w.heap.size w w' := by
  obtain ⟨r, rfl⟩ := Int.eq_ofNat_of_zero_le (show 0 ≤ a0 from h0.1)
  obtain ⟨g, rfl⟩ := Int.eq_ofNat_of_zero_le (show 0 ≤ a1 from h1.1)
  have hr : r < 256 := by have : (r : Int) ≤ 255 := h0.2; omega
  have hg : g < 256 := by have : (g : Int) ≤ 255 := h1.2; omega
  exact Calls.mono (Go.Proofs.Ytimhcjakpdebjaa.table_full w r g hr hg) fun e w' ⟨v, he, hv, hm⟩ => ⟨by rw [he, hv], hm⟩

set_option maxRecDepth 100000 in
theorem lifted (os : Os) (started : os.Started) (H : Type) (enc : TypeId × Value → H) :
    ReturnsInHanded {} Try.checked os 4 .any (Rows.tableFullSpec.pre6 enc Try.prog Try.f4 Rows.tableFullRow.domain false) (Rows.tableFullSpec.post enc Try.prog Try.f4 false true false false) := by
  refine returnsInHanded_of_change_sized (C := Try.checked) own started (by kernel_rfl) Try.func4
    (ChangeSpec.witness6 (enc := enc) (C := Try.checked) false ⟨#[], #[.int .u8 0, .int .u8 0], []⟩ 8 (by kernel_rfl) (by kernel_rfl) (by kernel_rfl) (by kernel_rfl)) ?_
  intro W base args ds gs before hval0 hW hcnd hsz _
  have hval : ∀ (j : Nat) t v, Try.f4.params[j]? = some t → args[j]? = some v → Value.okWide Try.prog W .any base t v := hval0
  have hW' := hW
  obtain ⟨p, q, hA0, hV, rfl, hfz, hnd⟩ := hW
  have hA : DataW.TrodAll enc Try.prog W 0 (fun _ => true) true Try.f4.params.toList args.toList ds p := hA0
  rw [Try.params4] at hA hval
  obtain ⟨v0, vs0, d0, ds0, p0, q0, hargs, rfl, rfl, h0, r0⟩ := trodAll_cons hA
  obtain ⟨v1, vs1, d1, ds1, p1, q1, rfl, rfl, rfl, h1, r1⟩ := trodAll_cons r0
  obtain ⟨rfl, rfl, rfl⟩ := trodAll_nil r1
  obtain rfl : args = #[v0, v1] := by cases args; simp_all
  obtain ⟨rfl, rfl⟩ := trodVars_none hV
  obtain ⟨a0, rfl⟩ := okWide_int Try.underlying5 (hval 0 5 v0 rfl rfl)
  have k0 := h0
  have lt0 : ∀ x ∈ p0, x.block < W.heap.size := by obtain ⟨m, hm⟩ := k0; exact DataW.trod_lt m _ _ _ hm
  have w0 : IntKind.u8.min ≤ a0 ∧ a0 ≤ IntKind.u8.max := by
    obtain ⟨fuel, hf⟩ := h0
    obtain ⟨x, hx, hr⟩ := (Go.Proofs.RV.lays_of_trod fuel _ _ _ hf).int Try.underlying5
    simp [Value.cells] at hx
    subst hx
    exact hr
  obtain ⟨a1, rfl⟩ := okWide_int Try.underlying5 (hval 1 5 v1 rfl rfl)
  have k1 := h1
  have lt1 : ∀ x ∈ p1, x.block < W.heap.size := by obtain ⟨m, hm⟩ := k1; exact DataW.trod_lt m _ _ _ hm
  have w1 : IntKind.u8.min ≤ a1 ∧ a1 ≤ IntKind.u8.max := by
    obtain ⟨fuel, hf⟩ := h1
    obtain ⟨x, hx, hr⟩ := (Go.Proofs.RV.lays_of_trod fuel _ _ _ hf).int Try.underlying5
    simp [Value.cells] at hx
    subst hx
    exact hr
  clear hA0 hval0
  refine (walk a0 a1 W w0 w1).mono fun e W' ⟨he, bel⟩ => ?_
  subst he
  exact ⟨_, rfl, _, _, _, [], _, [], hW', trodAll_mk1 (shut_bool Try.underlying4 _), (trodAll_cons_mk (Below.trod laidOut (by kernel_rfl) (of_decide_eq_true (by kernel_rfl)) k0 bel lt0) (trodAll_cons_mk (Below.trod laidOut (by kernel_rfl) (of_decide_eq_true (by kernel_rfl)) k1 bel lt1) trodAll_mk0)), rfl, bel.frame _, fun h => by cases h⟩

theorem over : Rows.tableFullRow.holds Try.pinned (OpenSpec.ofChange Rows.tableFullSpec) :=
  OpenClaim.holds_of_wide 4 Try.f4 rfl rfl rfl rfl rfl rfl rfl ⟨rfl, rfl, rfl, rfl, rfl⟩ rfl rfl rfl rfl rfl (by kernel_rfl) Try.func4 (by kernel_rfl)
    (of_decide_eq_true (by kernel_rfl)) (by unfold Func.isWrapper; first | (rw [if_pos (by decide +kernel)]; kernel_rfl) | (rw [if_neg (by decide +kernel)]; exact ⟨rfl, rfl⟩))
    (fun os started H enc _ => lifted os started H enc)

theorem proved : Rows.TableFullSaid := over
#print axioms proved
end Go.Proofs.Ytimhcjakpdebjaa.tableFull
