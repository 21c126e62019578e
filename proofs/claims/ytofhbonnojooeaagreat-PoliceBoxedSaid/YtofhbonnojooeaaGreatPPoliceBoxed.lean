/-
  PoliceBoxed of bailifflaw27 returns true for every input and changes nothing that was there.
-/
import Derived.Test.YtofhbonnojooeaaGreatRows
import Derived.WalkKit
import Derived.ProofKit
import Derived.OpenShut
import Derived.ShutString
import Derived.ChangeOld
import Derived.Below
import Derived.SizedLaws
import Derived.Test.YtofhbonnojooeaaGreatKPoliceBoxed23
namespace Go.Proofs.YtofhbonnojooeaaGreat.policeBoxed
open Go.ChangeShapes Go.WideShapes Go.ChangeAt Go.RowKit
open Go.ChangeMaps (open_string shut_string)
set_option linter.unusedVariables false
set_option linter.unusedSimpArgs false

theorem own : ownKnob Tryz.prog.godebug = none := by kernel_rfl
theorem laidOut : laidOutB Tryz.prog = true := by kernel_rfl

theorem walk (x0 : Array Value) (x1 : Array Value) (A2 : Option Addr) (n2 c2 : Nat) (w : World) (h0 : ∃ n, Go.Proofs.RV.Lays Tryz.prog w n 23 x0.toList) (h1 : ∃ n, Go.Proofs.RV.Lays Tryz.prog w n 24 x1.toList) (h2 : ∃ n, Go.Proofs.RV.Lays Tryz.prog w n 25 [.slice A2 n2 c2]) (z2 : c2 * Tryz.prog.bytesOf 43 ≤ reachBytes) :
    Calls Tryz.prog 3 #[.agg x0, .agg x1, .slice A2 n2 c2] w fun e w' => e = .returned (.bool true) ∧ Below w.heap.size w w' := by
  obtain ⟨_, g0⟩ := h0
  obtain ⟨c, rfl, hc, hi⟩ := Go.Proofs.YtofhbonnojooeaaGreat.cfg_in g0
  obtain ⟨_, g1⟩ := h1
  obtain ⟨key, ek, hk⟩ := Go.Proofs.YtofhbonnojooeaaGreat.key_in g1
  obtain rfl : x1 = (key.map Go.Proofs.RV.byteV).toArray := by rw [← ek]
  obtain ⟨_, g2⟩ := h2
  obtain ⟨A, l, n, e, hn, hA, hl, hf⟩ := Go.Proofs.YtofhbonnojooeaaGreat.acts27_in g2
  simp only [List.cons.injEq, Value.slice.injEq, and_true] at e
  obtain ⟨rfl, rfl, rfl⟩ := e
  exact Calls.mono (Go.Proofs.YtofhbonnojooeaaGreat.police_boxed_law w c hc key hk A2 l c2 hA hf) fun e w' ⟨v, he, hv, hm⟩ => ⟨by rw [he, hv], hm⟩

set_option maxRecDepth 100000 in
theorem lifted (os : Os) (started : os.Started) (H : Type) (enc : TypeId × Value → H) :
    ReturnsInHanded {} Tryz.checked os 3 .any (Rows.policeBoxedSpec.pre6 enc Tryz.prog Tryz.f3 Rows.policeBoxedRow.domain false) (Rows.policeBoxedSpec.post enc Tryz.prog Tryz.f3 false true false false) := by
  refine returnsInHanded_of_change_sized (C := Tryz.checked) own started (by kernel_rfl) Tryz.func3
    (ChangeSpec.witness6 (enc := enc) (C := Tryz.checked) false ⟨#[], #[.agg #[.int .i64 0, .int .i64 0, .int .i64 0, .int .i64 0, .int .i64 0, .int .i64 0, .int .i64 0, .int .i64 0, .int .i64 0, .int .i64 0, .int .i64 0, .int .i64 0, .int .i64 0, .int .i64 0, .int .i64 0, .int .i64 0, .int .i64 0, .int .i64 0, .int .i64 0, .int .i64 0], .agg #[.int .u8 0, .int .u8 0, .int .u8 0, .int .u8 0, .int .u8 0, .int .u8 0, .int .u8 0, .int .u8 0, .int .u8 0, .int .u8 0, .int .u8 0, .int .u8 0, .int .u8 0, .int .u8 0, .int .u8 0, .int .u8 0], .slice none 0 0], []⟩ 8 (by kernel_rfl) (by kernel_rfl) (by kernel_rfl) (by kernel_rfl)) ?_
  intro W base args ds gs before hval0 hW hcnd hsz _
  have hval : ∀ (j : Nat) t v, Tryz.f3.params[j]? = some t → args[j]? = some v → Value.okWide Tryz.prog W .any base t v := hval0
  have hW' := hW
  obtain ⟨p, q, hA0, hV, rfl, hfz, hnd⟩ := hW
  have hA : DataW.TrodAll enc Tryz.prog W 0 (fun _ => true) true Tryz.f3.params.toList args.toList ds p := hA0
  rw [Tryz.params3] at hA hval
  obtain ⟨v0, vs0, d0, ds0, p0, q0, hargs, rfl, rfl, h0, r0⟩ := trodAll_cons hA
  obtain ⟨v1, vs1, d1, ds1, p1, q1, rfl, rfl, rfl, h1, r1⟩ := trodAll_cons r0
  obtain ⟨v2, vs2, d2, ds2, p2, q2, rfl, rfl, rfl, h2, r2⟩ := trodAll_cons r1
  obtain ⟨rfl, rfl, rfl⟩ := trodAll_nil r2
  obtain rfl : args = #[v0, v1, v2] := by cases args; simp_all
  obtain ⟨rfl, rfl⟩ := trodVars_none hV
  obtain ⟨x0, rfl, _⟩ := okWide_struct Tryz.underlying23 (hval 0 23 v0 rfl rfl)
  have k0 := h0
  have lt0 : ∀ x ∈ p0, x.block < W.heap.size := by obtain ⟨m, hm⟩ := k0; exact DataW.trod_lt m _ _ _ hm
  have w0 : ∃ n, Go.Proofs.RV.Lays Tryz.prog W n 23 x0.toList := by
    obtain ⟨fuel, hf⟩ := h0
    exact ⟨fuel, Go.Proofs.RV.lays_of_trod fuel _ _ _ hf⟩
  obtain ⟨x1, rfl⟩ := Go.Proofs.RV.okWide_array Tryz.underlying24 (hval 1 24 v1 rfl rfl)
  have k1 := h1
  have lt1 : ∀ x ∈ p1, x.block < W.heap.size := by obtain ⟨m, hm⟩ := k1; exact DataW.trod_lt m _ _ _ hm
  have w1 : ∃ n, Go.Proofs.RV.Lays Tryz.prog W n 24 x1.toList := by
    obtain ⟨fuel, hf⟩ := h1
    exact ⟨fuel, Go.Proofs.RV.lays_of_trod fuel _ _ _ hf⟩
  obtain ⟨A2, n2, c2, rfl⟩ := okWide_slice Tryz.underlying25 (hval 2 25 v2 rfl rfl)
  have k2 := h2
  have lt2 : ∀ x ∈ p2, x.block < W.heap.size := by obtain ⟨m, hm⟩ := k2; exact DataW.trod_lt m _ _ _ hm
  have w2 : ∃ n, Go.Proofs.RV.Lays Tryz.prog W n 25 [.slice A2 n2 c2] := by
    obtain ⟨fuel, hf⟩ := h2
    exact ⟨fuel, Go.Proofs.RV.lays_of_trod fuel _ _ _ hf⟩
  have z2 : c2 * Tryz.prog.bytesOf 43 ≤ reachBytes := Go.Proofs.RV.sized_row (fun es sp hd => sized_slice hsz (j := 2) (t := 25) (e := 43) rfl (by rw [hd]; rfl) Tryz.underlying25) Tryz.underlying25 h2
  clear hA0 hval0
  refine (walk x0 x1 A2 n2 c2 W w0 w1 w2 z2).mono fun e W' ⟨he, bel⟩ => ?_
  subst he
  exact ⟨_, rfl, _, _, _, [], _, [], hW', trodAll_mk1 (shut_bool Tryz.underlying4 _), (trodAll_cons_mk (Below.trod laidOut (by kernel_rfl) (of_decide_eq_true (by kernel_rfl)) k0 bel lt0) (trodAll_cons_mk (Below.trod laidOut (by kernel_rfl) (of_decide_eq_true (by kernel_rfl)) k1 bel lt1) (trodAll_cons_mk (Below.trod laidOut (by kernel_rfl) (of_decide_eq_true (by kernel_rfl)) k2 bel lt2) trodAll_mk0))), rfl, bel.frame _, fun h => by cases h⟩

theorem fact0 : (Rows.policeBoxedRow.wf (OpenSpec.ofChange Rows.policeBoxedSpec)) = true := by kernel_rfl
theorem fact1 : (laidOutB Tryz.prog) = true := by kernel_rfl
theorem fact2 : (mapsRowed Tryz.prog) = true := by kernel_rfl
theorem fact3 : (Tryz.f3.params.all (Tryz.prog.readableRec ·)) = true := by kernel_rfl
theorem fact4 : (namedTie Tryz.prog Rows.policeBoxedRow.named Rows.policeBoxedSpec.vars) = true := by kernel_rfl
theorem fact5 : ((Rows.policeBoxedRow.stops == [])) = true := by kernel_rfl
theorem fact6 : ((Tryz.prog.stops == [])) = true := by kernel_rfl
theorem fact7 : ((Rows.policeBoxedRow.knobs == [])) = true := by kernel_rfl
theorem fact8 : ((Tryz.prog.stopKnobs == [])) = true := by kernel_rfl
theorem fact9 : ((Rows.policeBoxedRow.inPlace == Tryz.prog.inPlace 3)) = true := by kernel_rfl
theorem fact10 : ((Rows.policeBoxedRow.unfollowed == Tryz.prog.unfollowed 3)) = true := by kernel_rfl
theorem fact11 : ((Rows.policeBoxedRow.recurses == Tryz.prog.recurses 3)) = true := by kernel_rfl
theorem fact12 : ((Rows.policeBoxedRow.named == Tryz.prog.varsNamed 3)) = true := by kernel_rfl
theorem fact13 : ((Rows.policeBoxedRow.maps == (Tryz.f3.params.toList ++ Rows.policeBoxedSpec.plain.varTypes Tryz.prog).any (Tryz.prog.mapsRec ·))) = true := by kernel_rfl
theorem fact14 : ((Rows.policeBoxedRow.ifaces == (Tryz.f3.params.toList ++ Rows.policeBoxedSpec.plain.varTypes Tryz.prog).any (Tryz.prog.ifacesRec ·))) = true := by kernel_rfl
theorem fact15 : ((Rows.policeBoxedRow.mapsOut == Tryz.prog.mapsAmong Tryz.f3.resultTypes.toList)) = true := by kernel_rfl
theorem fact16 : ((Rows.policeBoxedRow.loops == (Tryz.f3.params.toList ++ Rows.policeBoxedSpec.plain.varTypes Tryz.prog).any (Tryz.prog.loopsFrom ·))) = true := by kernel_rfl
theorem fact17 : ((Rows.policeBoxedRow.wideKeys == (Tryz.f3.params.toList ++ Rows.policeBoxedSpec.plain.varTypes Tryz.prog ++ Tryz.f3.resultTypes.toList).any (Tryz.prog.wideKeysFrom ·))) = true := by kernel_rfl
theorem fact18 : (Rows.policeBoxedSpec.vars.all (Tryz.prog.varReadable ·)) = true := by kernel_rfl
theorem fact19 : (Tryz.f3.resultTypes.all (fun t => Tryz.prog.readableRec t && decide (t < Tryz.prog.types.size))) = true := by kernel_rfl
theorem fact20 : ((Rows.policeBoxedRow.ifacesOut == Tryz.f3.resultTypes.toList.any (Tryz.prog.ifacesRec ·))) = true := by kernel_rfl
theorem fact21 : ((Rows.policeBoxedRow.loopsOut == Tryz.f3.resultTypes.toList.any (Tryz.prog.loopsFrom ·))) = true := by kernel_rfl
theorem fact22 : ((Rows.policeBoxedRow.plainKeys == Tryz.prog.plainKeys)) = true := by kernel_rfl
theorem fact23 : (Rows.policeBoxedRow.shortTexts.isNone) = true := by kernel_rfl
theorem fact24 : (Tryz.prog.stopsHeard) = true := by kernel_rfl
theorem fact25 : (Tryz.prog.mayEnter) = true := by kernel_rfl
theorem fact26 : ((Rows.policeBoxedRow.lifted == Tryz.prog.liftsFinal)) = true := by kernel_rfl
theorem fact27 : ((Tryz.prog.make == some Rows.policeBoxedRow.make)) = true := by kernel_rfl
theorem fact28 : ((Rows.policeBoxedRow.kinds == (if Rows.policeBoxedRow.domain.isEmpty then [] else Tryz.f3.params.toList.map fun t => match Tryz.prog.underlying t with | some (.int k) => some k | _ => none))) = true := by kernel_rfl
theorem fact29 : ((Rows.policeBoxedRow.pinned == Rows.policeBoxedRow.pinnedBy)) = true := by kernel_rfl
theorem fact30 : ((Rows.policeBoxedRow.veiled == (Tryz.f3.params.toList ++ Rows.policeBoxedSpec.plain.varTypes Tryz.prog ++ Tryz.f3.resultTypes.toList).any (Tryz.prog.veiledRec ·))) = true := by kernel_rfl
theorem fact31 : (Rows.policeBoxedRow.veiledFits Tryz.prog Tryz.f3.params.toList (Tryz.f3.params.toList ++ Rows.policeBoxedSpec.plain.varTypes Tryz.prog ++ Tryz.f3.resultTypes.toList)) = true := by kernel_rfl
theorem facts : joinedFacts Tryz.prog 3 Tryz.f3 Rows.policeBoxedSpec Rows.policeBoxedRow = true := by
  unfold joinedFacts
  simp only [Bool.and_eq_true]
  simp only [and_assoc]
  exact ⟨fact0, fact1, fact2, fact3, fact4, fact5, fact6, fact7, fact8, fact9, fact10, fact11, fact12, fact13, fact14, fact15, fact16, fact17, fact18, fact19, fact20, fact21, fact22, fact23, fact24, fact25, fact26, fact27, by kernel_rfl, fact29, fact30, fact31⟩
theorem named : Tryz.pinned.checked.prog.funcNamed Rows.policeBoxedRow.func = some 3 := by kernel_rfl
theorem inst : Tryz.f3.isInstance Tryz.prog Rows.policeBoxedRow.origin Rows.policeBoxedRow.targs := (of_decide_eq_true (by kernel_rfl))
theorem wrap : Tryz.f3.isWrapper Tryz.prog Rows.policeBoxedRow.wrapper Rows.policeBoxedRow.mainSum := by unfold Func.isWrapper; first | (rw [if_pos (by decide +kernel)]; kernel_rfl) | (rw [if_neg (by decide +kernel)]; exact ⟨rfl, rfl⟩)

theorem over : Rows.policeBoxedRow.holds Tryz.pinned (OpenSpec.ofChange Rows.policeBoxedSpec) :=
  OpenClaim.holds_of_wide 3 Tryz.f3 rfl rfl rfl rfl rfl rfl rfl ⟨rfl, rfl, rfl, rfl, rfl⟩ rfl rfl rfl rfl rfl named Tryz.func3 facts
    inst wrap
    (fun os started H enc _ => lifted os started H enc)

theorem proved : Rows.PoliceBoxedSaid := over
#print axioms proved
end Go.Proofs.YtofhbonnojooeaaGreat.policeBoxed

