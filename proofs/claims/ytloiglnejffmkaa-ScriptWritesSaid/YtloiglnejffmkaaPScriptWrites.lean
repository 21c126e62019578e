/-
  ScriptWrites of bailifflaw31 returns true for every input and changes nothing that was there.
-/
import Derived.Test.YtloiglnejffmkaaRows
import Derived.Test.YtloiglnejffmkaaLa
import Derived.Test.YtloiglnejffmkaaScrM
import Derived.WalkKit
import Derived.ProofKit
import Derived.OpenShut
import Derived.ShutString
import Derived.ChangeOld
import Derived.Below
import Derived.SizedLaws
namespace Go.Proofs.Ytloiglnejffmkaa.scriptWrites
open Go.ChangeShapes Go.WideShapes Go.ChangeAt Go.RowKit
open Go.ChangeMaps (open_string shut_string)
set_option linter.unusedVariables false
set_option linter.unusedSimpArgs false

theorem own : ownKnob Try.prog.godebug = none := by kernel_rfl
theorem laidOut : laidOutB Try.prog = true := by kernel_rfl

theorem walk (A0 : Option Addr) (n0 c0 : Nat) (w : World) (h0 : ∃ n, Go.Proofs.RV.LayS Try.prog w n 73 [.slice A0 n0 c0]) (z0 : c0 * Try.prog.bytesOf 159 ≤ reachBytes) :
    Calls Try.prog 10 #[.slice A0 n0 c0] w fun e w' => e = .returned (.bool true) ∧ Below w.heap.size w w' := by
  obtain ⟨_, g0⟩ := h0
  obtain ⟨A, ms, c, e, hc, hA, _, hF⟩ := g0.rowOf (M := Go.Proofs.Ytloiglnejffmkaa.OpM) (E := Go.Proofs.Ytloiglnejffmkaa.OpM.cells) (s := 49) Try.underlying73 cells159 (by omega) (fun m => m.o.Fit ∧ m.o.Num ∧ Go.Proofs.RV.Bs w m.A m.o.b ∧ m.o.b.length ≤ m.c) Go.Proofs.Ytloiglnejffmkaa.op_in
  simp only [List.cons.injEq, Value.slice.injEq, and_true] at e
  obtain ⟨rfl, rfl, rfl⟩ := e
  exact Calls.mono (Go.Proofs.Ytloiglnejffmkaa.script_writes w _ ms _ hA (fun m hm => ⟨(hF m hm).1, (hF m hm).2.2.1, (hF m hm).2.2.2⟩) (fun m hm => (hF m hm).2.1)) fun e w' ⟨v, he, hv, hm⟩ => ⟨by rw [he, hv], hm⟩

set_option maxRecDepth 100000 in
theorem lifted (os : Os) (started : os.Started) (H : Type) (enc : TypeId × Value → H) :
    ReturnsInHanded {} Try.checked os 10 .any (Rows.scriptWritesSpec.pre6 enc Try.prog Try.f10 Rows.scriptWritesRow.domain false) (Rows.scriptWritesSpec.post enc Try.prog Try.f10 false true false false) := by
  refine returnsInHanded_of_change_sized (C := Try.checked) own started (by kernel_rfl) Try.func10
    (ChangeSpec.witness6 (enc := enc) (C := Try.checked) false ⟨#[], #[.slice none 0 0], []⟩ 8 (by kernel_rfl) (by kernel_rfl) (by kernel_rfl) (by kernel_rfl)) ?_
  intro W base args ds gs before hval0 hW hcnd hsz _
  have hval : ∀ (j : Nat) t v, Try.f10.params[j]? = some t → args[j]? = some v → Value.okWide Try.prog W .any base t v := hval0
  have hW' := hW
  obtain ⟨p, q, hA0, hV, rfl, hfz, hnd⟩ := hW
  have hA : DataW.TrodAll enc Try.prog W 0 (fun _ => true) true Try.f10.params.toList args.toList ds p := hA0
  rw [Try.params10] at hA hval
  obtain ⟨v0, vs0, d0, ds0, p0, q0, hargs, rfl, rfl, h0, r0⟩ := trodAll_cons hA
  obtain ⟨rfl, rfl, rfl⟩ := trodAll_nil r0
  obtain rfl : args = #[v0] := by cases args; simp_all
  obtain ⟨rfl, rfl⟩ := trodVars_none hV
  obtain ⟨A0, n0, c0, rfl⟩ := okWide_slice Try.underlying73 (hval 0 73 v0 rfl rfl)
  have k0 := h0
  have lt0 : ∀ x ∈ p0, x.block < W.heap.size := by obtain ⟨m, hm⟩ := k0; exact DataW.trod_lt m _ _ _ hm
  have w0 : ∃ n, Go.Proofs.RV.LayS Try.prog W n 73 [.slice A0 n0 c0] := by
    obtain ⟨fuel, hf⟩ := h0
    exact ⟨fuel, Go.Proofs.RV.layS_of_trod (fun _ => rfl) fuel _ _ _ hf fun k hk => by simpa using List.all_eq_true.1 hsz k (DataW.weights_mem_each (j := 0) (t := 73) rfl rfl k hk)⟩
  have z0 : c0 * Try.prog.bytesOf 159 ≤ reachBytes := Go.Proofs.RV.sized_row (fun es sp hd => sized_slice hsz (j := 0) (t := 73) (e := 159) rfl (by rw [hd]; rfl) Try.underlying73) Try.underlying73 h0
  clear hA0 hval0
  refine (walk A0 n0 c0 W w0 z0).mono fun e W' ⟨he, bel⟩ => ?_
  subst he
  exact ⟨_, rfl, _, _, _, [], _, [], hW', trodAll_mk1 (shut_bool Try.underlying4 _), (trodAll_cons_mk (Below.trod laidOut (by kernel_rfl) (of_decide_eq_true (by kernel_rfl)) k0 bel lt0) trodAll_mk0), rfl, bel.frame _, fun h => by cases h⟩

theorem over : Rows.scriptWritesRow.holds Try.pinned (OpenSpec.ofChange Rows.scriptWritesSpec) :=
  OpenClaim.holds_of_wide 10 Try.f10 rfl rfl rfl rfl rfl rfl rfl ⟨rfl, rfl, rfl, rfl, rfl⟩ rfl rfl rfl rfl rfl (by kernel_rfl) Try.func10 (by kernel_rfl)
    (of_decide_eq_true (by kernel_rfl)) (by unfold Func.isWrapper; first | (rw [if_pos (by decide +kernel)]; kernel_rfl) | (rw [if_neg (by decide +kernel)]; exact ⟨rfl, rfl⟩))
    (fun os started H enc _ => lifted os started H enc)

theorem proved : Rows.ScriptWritesSaid := over
#print axioms proved
end Go.Proofs.Ytloiglnejffmkaa.scriptWrites
