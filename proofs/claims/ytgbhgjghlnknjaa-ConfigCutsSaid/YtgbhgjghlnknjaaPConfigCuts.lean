/-
  ConfigCuts of bailifflaw26 returns true for every input and changes nothing that was there.
-/
import Derived.Test.YtgbhgjghlnknjaaRows
import Derived.Test.YtgbhgjghlnknjaaLa
import Derived.Test.YtgbhgjghlnknjaaLaw26B
import Derived.WalkKit
import Derived.ProofKit
import Derived.OpenShut
import Derived.ShutString
import Derived.ChangeOld
import Derived.Below
import Derived.SizedLaws
namespace Go.Proofs.Ytgbhgjghlnknjaa.configCuts
open Go.ChangeShapes Go.WideShapes Go.ChangeAt Go.RowKit
open Go.ChangeMaps (open_string shut_string)
set_option linter.unusedVariables false
set_option linter.unusedSimpArgs false

theorem own : ownKnob Try.prog.godebug = none := by kernel_rfl
theorem laidOut : laidOutB Try.prog = true := by kernel_rfl

theorem walk (x0 : Array Value) (a1 : Int) (A2 : Option Addr) (n2 c2 : Nat) (w : World) (h0 : ∃ n, Go.Proofs.RV.Lays Try.prog w n 46 x0.toList) (h1 : IntKind.u8.min ≤ a1 ∧ a1 ≤ IntKind.u8.max) (h2 : ∃ n, Go.Proofs.RV.Lays Try.prog w n 22 [.slice A2 n2 c2]) (z2 : c2 * Try.prog.bytesOf 5 ≤ reachBytes) :
    Calls Try.prog 12 #[.agg x0, .int .u8 a1, .slice A2 n2 c2] w fun e w' => e = .returned (.bool true) ∧ Below w.heap.size w w' := by
  obtain ⟨_, g0⟩ := h0
  obtain ⟨c, rfl, lc, rc⟩ := cfg_in g0
  obtain ⟨_, g2⟩ := h2
  obtain ⟨A, l, cc, e, hc, hA⟩ := g2.byteRow Try.underlying22 Try.underlying5 cells5
  simp only [List.cons.injEq, Value.slice.injEq, and_true] at e
  obtain ⟨rfl, rfl, rfl⟩ := e
  have r1 : 0 ≤ a1 ∧ a1 < 256 := by
    have := h1
    simp [IntKind.min, IntKind.max, IntKind.signed, IntKind.bits] at this
    omega
  exact Calls.mono (Go.Proofs.Ytgbhgjghlnknjaa.config_cuts w c lc a1 r1 A2 l c2 hA hc) fun e w' ⟨v, he, hv, hm⟩ => ⟨by rw [he, hv], hm⟩

set_option maxRecDepth 100000 in
theorem lifted (os : Os) (started : os.Started) (H : Type) (enc : TypeId × Value → H) :
    ReturnsInHanded {} Try.checked os 12 .any (Rows.configCutsSpec.pre6 enc Try.prog Try.f12 Rows.configCutsRow.domain false) (Rows.configCutsSpec.post enc Try.prog Try.f12 false true false false) := by
  refine returnsInHanded_of_change_sized (C := Try.checked) own started (by kernel_rfl) Try.func12
    (ChangeSpec.witness6 (enc := enc) (C := Try.checked) false ⟨#[], #[.agg #[.int .i64 0, .int .i64 0, .int .i64 0, .int .i64 0, .int .i64 0, .int .i64 0, .int .i64 0, .int .i64 0, .int .i64 0, .int .i64 0, .int .i64 0, .int .i64 0, .int .i64 0, .int .i64 0, .int .i64 0, .int .i64 0, .int .i64 0, .int .i64 0, .int .i64 0, .int .i64 0], .int .u8 0, .slice none 0 0], []⟩ 8 (by kernel_rfl) (by kernel_rfl) (by kernel_rfl) (by kernel_rfl)) ?_
  intro W base args ds gs before hval0 hW hcnd hsz _
  have hval : ∀ (j : Nat) t v, Try.f12.params[j]? = some t → args[j]? = some v → Value.okWide Try.prog W .any base t v := hval0
  have hW' := hW
  obtain ⟨p, q, hA0, hV, rfl, hfz, hnd⟩ := hW
  have hA : DataW.TrodAll enc Try.prog W 0 (fun _ => true) true Try.f12.params.toList args.toList ds p := hA0
  rw [Try.params12] at hA hval
  obtain ⟨v0, vs0, d0, ds0, p0, q0, hargs, rfl, rfl, h0, r0⟩ := trodAll_cons hA
  obtain ⟨v1, vs1, d1, ds1, p1, q1, rfl, rfl, rfl, h1, r1⟩ := trodAll_cons r0
  obtain ⟨v2, vs2, d2, ds2, p2, q2, rfl, rfl, rfl, h2, r2⟩ := trodAll_cons r1
  obtain ⟨rfl, rfl, rfl⟩ := trodAll_nil r2
  obtain rfl : args = #[v0, v1, v2] := by cases args; simp_all
  obtain ⟨rfl, rfl⟩ := trodVars_none hV
  obtain ⟨x0, rfl, _⟩ := okWide_struct Try.underlying46 (hval 0 46 v0 rfl rfl)
  have k0 := h0
  have lt0 : ∀ x ∈ p0, x.block < W.heap.size := by obtain ⟨m, hm⟩ := k0; exact DataW.trod_lt m _ _ _ hm
  have w0 : ∃ n, Go.Proofs.RV.Lays Try.prog W n 46 x0.toList := by
    obtain ⟨fuel, hf⟩ := h0
    exact ⟨fuel, Go.Proofs.RV.lays_of_trod fuel _ _ _ hf⟩
  obtain ⟨a1, rfl⟩ := okWide_int Try.underlying5 (hval 1 5 v1 rfl rfl)
  have k1 := h1
  have lt1 : ∀ x ∈ p1, x.block < W.heap.size := by obtain ⟨m, hm⟩ := k1; exact DataW.trod_lt m _ _ _ hm
  have w1 : IntKind.u8.min ≤ a1 ∧ a1 ≤ IntKind.u8.max := by
    obtain ⟨fuel, hf⟩ := h1
    obtain ⟨x, hx, hr⟩ := (Go.Proofs.RV.lays_of_trod fuel _ _ _ hf).int Try.underlying5
    simp [Value.cells] at hx
    subst hx
    exact hr
  obtain ⟨A2, n2, c2, rfl⟩ := okWide_slice Try.underlying22 (hval 2 22 v2 rfl rfl)
  have k2 := h2
  have lt2 : ∀ x ∈ p2, x.block < W.heap.size := by obtain ⟨m, hm⟩ := k2; exact DataW.trod_lt m _ _ _ hm
  have w2 : ∃ n, Go.Proofs.RV.Lays Try.prog W n 22 [.slice A2 n2 c2] := by
    obtain ⟨fuel, hf⟩ := h2
    exact ⟨fuel, Go.Proofs.RV.lays_of_trod fuel _ _ _ hf⟩
  have z2 : c2 * Try.prog.bytesOf 5 ≤ reachBytes := Go.Proofs.RV.sized_row (fun es sp hd => sized_slice hsz (j := 2) (t := 22) (e := 5) rfl (by rw [hd]; rfl) Try.underlying22) Try.underlying22 h2
  clear hA0 hval0
  refine (walk x0 a1 A2 n2 c2 W w0 w1 w2 z2).mono fun e W' ⟨he, bel⟩ => ?_
  subst he
  exact ⟨_, rfl, _, _, _, [], _, [], hW', trodAll_mk1 (shut_bool Try.underlying4 _), (trodAll_cons_mk (Below.trod laidOut (by kernel_rfl) (of_decide_eq_true (by kernel_rfl)) k0 bel lt0) (trodAll_cons_mk (Below.trod laidOut (by kernel_rfl) (of_decide_eq_true (by kernel_rfl)) k1 bel lt1) (trodAll_cons_mk (Below.trod laidOut (by kernel_rfl) (of_decide_eq_true (by kernel_rfl)) k2 bel lt2) trodAll_mk0))), rfl, bel.frame _, fun h => by cases h⟩

theorem over : Rows.configCutsRow.holds Try.pinned (OpenSpec.ofChange Rows.configCutsSpec) :=
  OpenClaim.holds_of_wide 12 Try.f12 rfl rfl rfl rfl rfl rfl rfl ⟨rfl, rfl, rfl, rfl, rfl⟩ rfl rfl rfl rfl rfl (by kernel_rfl) Try.func12 (by kernel_rfl)
    (of_decide_eq_true (by kernel_rfl)) (by unfold Func.isWrapper; first | (rw [if_pos (by decide +kernel)]; kernel_rfl) | (rw [if_neg (by decide +kernel)]; exact ⟨rfl, rfl⟩))
    (fun os started H enc _ => lifted os started H enc)

theorem proved : Rows.ConfigCutsSaid := over
#print axioms proved
end Go.Proofs.Ytgbhgjghlnknjaa.configCuts
