/-
  BoxRoom of bailifflaw22 returns true for every input and changes nothing that was there.
-/
import Derived.Test.YtimhcjakpdebjaaRows
import Derived.Test.YtimhcjakpdebjaaLa
import Derived.Test.YtimhcjakpdebjaaLaw22R
import Derived.WalkKit
import Derived.ProofKit
import Derived.OpenShut
import Derived.ShutString
import Derived.ChangeOld
import Derived.Below
import Derived.SizedLaws
namespace Go.Proofs.Ytimhcjakpdebjaa.boxRoom
open Go.ChangeShapes Go.WideShapes Go.ChangeAt Go.RowKit
open Go.ChangeMaps (open_string shut_string)
set_option linter.unusedVariables false
set_option linter.unusedSimpArgs false

theorem own : ownKnob Try.prog.godebug = none := by kernel_rfl
theorem laidOut : laidOutB Try.prog = true := by kernel_rfl

theorem walk (a0 : Int) (a1 : Int) (A2 : Option Addr) (n2 c2 : Nat) (w : World) (h0 : IntKind.u8.min ≤ a0 ∧ a0 ≤ IntKind.u8.max) (h1 : IntKind.u32.min ≤ a1 ∧ a1 ≤ IntKind.u32.max) (h2 : ∃ n, Go.Proofs.RV.Lays Try.prog w n 68 [.slice A2 n2 c2]) (z2 : c2 * Try.prog.bytesOf 71 ≤ reachBytes) :
    Calls Try.prog 8 #[.int .u8 a0, .int .u32 a1, .slice A2 n2 c2] w fun e w' => e = .returned (.bool true) ∧ Below w.heap.size w w' := by
  simp [IntKind.min, IntKind.max, IntKind.signed, IntKind.bits] at h0 h1
  obtain ⟨_, g2⟩ := h2
  obtain ⟨A, l, c, e, hc, hA, _, hO⟩ := Go.Proofs.Ytimhcjakpdebjaa.acts22_in g2
  simp only [List.cons.injEq, Value.slice.injEq, and_true] at e
  obtain ⟨rfl, rfl, rfl⟩ := e
  exact Calls.mono (Go.Proofs.Ytimhcjakpdebjaa.box_room w a0 a1 A2 l c2 ⟨h0.1, by omega⟩ ⟨h1.1, by omega⟩ hA hO) fun e w' ⟨v, he, hv, hm⟩ => ⟨by rw [he, hv], hm⟩

set_option maxRecDepth 100000 in
theorem lifted (os : Os) (started : os.Started) (H : Type) (enc : TypeId × Value → H) :
    ReturnsInHanded {} Try.checked os 8 .any (Rows.boxRoomSpec.pre6 enc Try.prog Try.f8 Rows.boxRoomRow.domain false) (Rows.boxRoomSpec.post enc Try.prog Try.f8 false true false false) := by
  refine returnsInHanded_of_change_sized (C := Try.checked) own started (by kernel_rfl) Try.func8
    (ChangeSpec.witness6 (enc := enc) (C := Try.checked) false ⟨#[], #[.int .u8 0, .int .u32 0, .slice none 0 0], []⟩ 8 (by kernel_rfl) (by kernel_rfl) (by kernel_rfl) (by kernel_rfl)) ?_
  intro W base args ds gs before hval0 hW hcnd hsz _
  have hval : ∀ (j : Nat) t v, Try.f8.params[j]? = some t → args[j]? = some v → Value.okWide Try.prog W .any base t v := hval0
  have hW' := hW
  obtain ⟨p, q, hA0, hV, rfl, hfz, hnd⟩ := hW
  have hA : DataW.TrodAll enc Try.prog W 0 (fun _ => true) true Try.f8.params.toList args.toList ds p := hA0
  rw [Try.params8] at hA hval
  obtain ⟨v0, vs0, d0, ds0, p0, q0, hargs, rfl, rfl, h0, r0⟩ := trodAll_cons hA
  obtain ⟨v1, vs1, d1, ds1, p1, q1, rfl, rfl, rfl, h1, r1⟩ := trodAll_cons r0
  obtain ⟨v2, vs2, d2, ds2, p2, q2, rfl, rfl, rfl, h2, r2⟩ := trodAll_cons r1
  obtain ⟨rfl, rfl, rfl⟩ := trodAll_nil r2
  obtain rfl : args = #[v0, v1, v2] := by cases args; simp_all
  obtain ⟨rfl, rfl⟩ := trodVars_none hV
  obtain ⟨a0, rfl⟩ := okWide_int Try.underlying5 (hval 0 5 v0 rfl rfl)
  have k0 := h0
  have lt0 : ∀ x ∈ p0, x.block < W.heap.size := by obtain ⟨m, hm⟩ := k0; exact DataW.trod_lt m _ _ _ hm
  have w0 : IntKind.u8.min ≤ a0 ∧ a0 ≤ IntKind.u8.max := by
    obtain ⟨fuel, hf⟩ := h0
    obtain ⟨x, hx, hr⟩ := (Go.Proofs.RV.lays_of_trod fuel _ _ _ hf).int Try.underlying5
    simp [Value.cells] at hx
    subst hx
    exact hr
  obtain ⟨a1, rfl⟩ := okWide_int Try.underlying67 (hval 1 67 v1 rfl rfl)
  have k1 := h1
  have lt1 : ∀ x ∈ p1, x.block < W.heap.size := by obtain ⟨m, hm⟩ := k1; exact DataW.trod_lt m _ _ _ hm
  have w1 : IntKind.u32.min ≤ a1 ∧ a1 ≤ IntKind.u32.max := by
    obtain ⟨fuel, hf⟩ := h1
    obtain ⟨x, hx, hr⟩ := (Go.Proofs.RV.lays_of_trod fuel _ _ _ hf).int Try.underlying67
    simp [Value.cells] at hx
    subst hx
    exact hr
  obtain ⟨A2, n2, c2, rfl⟩ := okWide_slice Try.underlying68 (hval 2 68 v2 rfl rfl)
  have k2 := h2
  have lt2 : ∀ x ∈ p2, x.block < W.heap.size := by obtain ⟨m, hm⟩ := k2; exact DataW.trod_lt m _ _ _ hm
  have w2 : ∃ n, Go.Proofs.RV.Lays Try.prog W n 68 [.slice A2 n2 c2] := by
    obtain ⟨fuel, hf⟩ := h2
    exact ⟨fuel, Go.Proofs.RV.lays_of_trod fuel _ _ _ hf⟩
  have z2 : c2 * Try.prog.bytesOf 71 ≤ reachBytes := Go.Proofs.RV.sized_row (fun es sp hd => sized_slice hsz (j := 2) (t := 68) (e := 71) rfl (by rw [hd]; rfl) Try.underlying68) Try.underlying68 h2
  clear hA0 hval0
  refine (walk a0 a1 A2 n2 c2 W w0 w1 w2 z2).mono fun e W' ⟨he, bel⟩ => ?_
  subst he
  exact ⟨_, rfl, _, _, _, [], _, [], hW', trodAll_mk1 (shut_bool Try.underlying4 _), (trodAll_cons_mk (Below.trod laidOut (by kernel_rfl) (of_decide_eq_true (by kernel_rfl)) k0 bel lt0) (trodAll_cons_mk (Below.trod laidOut (by kernel_rfl) (of_decide_eq_true (by kernel_rfl)) k1 bel lt1) (trodAll_cons_mk (Below.trod laidOut (by kernel_rfl) (of_decide_eq_true (by kernel_rfl)) k2 bel lt2) trodAll_mk0))), rfl, bel.frame _, fun h => by cases h⟩

theorem over : Rows.boxRoomRow.holds Try.pinned (OpenSpec.ofChange Rows.boxRoomSpec) :=
  OpenClaim.holds_of_wide 8 Try.f8 rfl rfl rfl rfl rfl rfl rfl ⟨rfl, rfl, rfl, rfl, rfl⟩ rfl rfl rfl rfl rfl (by kernel_rfl) Try.func8 (by kernel_rfl)
    (of_decide_eq_true (by kernel_rfl)) (by unfold Func.isWrapper; first | (rw [if_pos (by decide +kernel)]; kernel_rfl) | (rw [if_neg (by decide +kernel)]; exact ⟨rfl, rfl⟩))
    (fun os started H enc _ => lifted os started H enc)

theorem proved : Rows.BoxRoomSaid := over
#print axioms proved
end Go.Proofs.Ytimhcjakpdebjaa.boxRoom
