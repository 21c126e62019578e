/-
  TablePlays of bailifflaw21 returns true for every input and changes nothing that was there.
-/
import Derived.Test.YtimhcjakpdebjaaRows
import Derived.Test.YtimhcjakpdebjaaLa
import Derived.Test.YtimhcjakpdebjaaLaw21P
import Derived.WalkKit
import Derived.ProofKit
import Derived.OpenShut
import Derived.ShutString
import Derived.ChangeOld
import Derived.Below
import Derived.SizedLaws
namespace Go.Proofs.Ytimhcjakpdebjaa.tablePlays
open Go.ChangeShapes Go.WideShapes Go.ChangeAt Go.RowKit
open Go.ChangeMaps (open_string shut_string)
set_option linter.unusedVariables false
set_option linter.unusedSimpArgs false

theorem own : ownKnob Try.prog.godebug = none := by kernel_rfl
theorem laidOut : laidOutB Try.prog = true := by kernel_rfl

theorem walk (a0 : Int) (A1 : Option Addr) (n1 c1 : Nat) (w : World) (h0 : IntKind.i64.min ≤ a0 ∧ a0 ≤ IntKind.i64.max) (h1 : ∃ n, Go.Proofs.RV.Lays Try.prog w n 38 [.slice A1 n1 c1]) (z1 : c1 * Try.prog.bytesOf 43 ≤ reachBytes) :
    Calls Try.prog 5 #[.int .i64 a0, .slice A1 n1 c1] w fun e w' => e = .returned (.bool true) ∧ Below w.heap.size w w' := by
  obtain ⟨_, g1⟩ := h1
  obtain ⟨A, l, c, e, hc, hA, _, hO⟩ := Go.Proofs.Ytimhcjakpdebjaa.acts_in g1
  simp only [List.cons.injEq, Value.slice.injEq, and_true] at e
  obtain ⟨rfl, rfl, rfl⟩ := e
  exact Calls.mono (Go.Proofs.Ytimhcjakpdebjaa.table_plays w a0 A1 l c1 hA hO) fun e w' ⟨v, he, hv, hm⟩ => ⟨by rw [he, hv], hm⟩

set_option maxRecDepth 100000 in
theorem lifted (os : Os) (started : os.Started) (H : Type) (enc : TypeId × Value → H) :
    ReturnsInHanded {} Try.checked os 5 .any (Rows.tablePlaysSpec.pre6 enc Try.prog Try.f5 Rows.tablePlaysRow.domain false) (Rows.tablePlaysSpec.post enc Try.prog Try.f5 false true false false) := by
  refine returnsInHanded_of_change_sized (C := Try.checked) own started (by kernel_rfl) Try.func5
    (ChangeSpec.witness6 (enc := enc) (C := Try.checked) false ⟨#[], #[.int .i64 0, .slice none 0 0], []⟩ 8 (by kernel_rfl) (by kernel_rfl) (by kernel_rfl) (by kernel_rfl)) ?_
  intro W base args ds gs before hval0 hW hcnd hsz _
  have hval : ∀ (j : Nat) t v, Try.f5.params[j]? = some t → args[j]? = some v → Value.okWide Try.prog W .any base t v := hval0
  have hW' := hW
  obtain ⟨p, q, hA0, hV, rfl, hfz, hnd⟩ := hW
  have hA : DataW.TrodAll enc Try.prog W 0 (fun _ => true) true Try.f5.params.toList args.toList ds p := hA0
  rw [Try.params5] at hA hval
  obtain ⟨v0, vs0, d0, ds0, p0, q0, hargs, rfl, rfl, h0, r0⟩ := trodAll_cons hA
  obtain ⟨v1, vs1, d1, ds1, p1, q1, rfl, rfl, rfl, h1, r1⟩ := trodAll_cons r0
  obtain ⟨rfl, rfl, rfl⟩ := trodAll_nil r1
  obtain rfl : args = #[v0, v1] := by cases args; simp_all
  obtain ⟨rfl, rfl⟩ := trodVars_none hV
  obtain ⟨a0, rfl⟩ := okWide_int Try.underlying3 (hval 0 3 v0 rfl rfl)
  have k0 := h0
  have lt0 : ∀ x ∈ p0, x.block < W.heap.size := by obtain ⟨m, hm⟩ := k0; exact DataW.trod_lt m _ _ _ hm
  have w0 : IntKind.i64.min ≤ a0 ∧ a0 ≤ IntKind.i64.max := by
    obtain ⟨fuel, hf⟩ := h0
    obtain ⟨x, hx, hr⟩ := (Go.Proofs.RV.lays_of_trod fuel _ _ _ hf).int Try.underlying3
    simp [Value.cells] at hx
    subst hx
    exact hr
  obtain ⟨A1, n1, c1, rfl⟩ := okWide_slice Try.underlying38 (hval 1 38 v1 rfl rfl)
  have k1 := h1
  have lt1 : ∀ x ∈ p1, x.block < W.heap.size := by obtain ⟨m, hm⟩ := k1; exact DataW.trod_lt m _ _ _ hm
  have w1 : ∃ n, Go.Proofs.RV.Lays Try.prog W n 38 [.slice A1 n1 c1] := by
    obtain ⟨fuel, hf⟩ := h1
    exact ⟨fuel, Go.Proofs.RV.lays_of_trod fuel _ _ _ hf⟩
  have z1 : c1 * Try.prog.bytesOf 43 ≤ reachBytes := Go.Proofs.RV.sized_row (fun es sp hd => sized_slice hsz (j := 1) (t := 38) (e := 43) rfl (by rw [hd]; rfl) Try.underlying38) Try.underlying38 h1
  clear hA0 hval0
  refine (walk a0 A1 n1 c1 W w0 w1 z1).mono fun e W' ⟨he, bel⟩ => ?_
  subst he
  exact ⟨_, rfl, _, _, _, [], _, [], hW', trodAll_mk1 (shut_bool Try.underlying4 _), (trodAll_cons_mk (Below.trod laidOut (by kernel_rfl) (of_decide_eq_true (by kernel_rfl)) k0 bel lt0) (trodAll_cons_mk (Below.trod laidOut (by kernel_rfl) (of_decide_eq_true (by kernel_rfl)) k1 bel lt1) trodAll_mk0)), rfl, bel.frame _, fun h => by cases h⟩

theorem over : Rows.tablePlaysRow.holds Try.pinned (OpenSpec.ofChange Rows.tablePlaysSpec) :=
  OpenClaim.holds_of_wide 5 Try.f5 rfl rfl rfl rfl rfl rfl rfl ⟨rfl, rfl, rfl, rfl, rfl⟩ rfl rfl rfl rfl rfl (by kernel_rfl) Try.func5 (by kernel_rfl)
    (of_decide_eq_true (by kernel_rfl)) (by unfold Func.isWrapper; first | (rw [if_pos (by decide +kernel)]; kernel_rfl) | (rw [if_neg (by decide +kernel)]; exact ⟨rfl, rfl⟩))
    (fun os started H enc _ => lifted os started H enc)

theorem proved : Rows.TablePlaysSaid := over
#print axioms proved
end Go.Proofs.Ytimhcjakpdebjaa.tablePlays
