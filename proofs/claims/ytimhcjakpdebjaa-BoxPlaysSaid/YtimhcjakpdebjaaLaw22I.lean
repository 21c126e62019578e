/-
  Layer 22: what the box and the document's box hold alike.
-/
import Derived.Test.YtimhcjakpdebjaaLaw22S
import Derived.Test.YtimhcjakpdebjaaRef22E
namespace Go.Proofs.Ytimhcjakpdebjaa
open Go Go.RowKit Go.Proofs.RV
set_option linter.unusedSimpArgs false
set_option linter.unusedVariables false
set_option maxRecDepth 10000
set_option maxHeartbeats 4000000
theorem nil_sweep (w : World) (now : Int) : Ret Try.prog 52 #[.pointer none, .int .i64 now] w fun v w' => v = .bool false ∧ w' = w := by
  refine ret_of Try.func52 rfl (by kernel_rfl) (Nat.le_of_ble_eq_true (by kernel_rfl)) ?_
  simp (config := {maxSteps := 1000000}) only [↓zvN, zvU, ↓up_apply, ↓hv_apply, ↓upO_some, ↓upO_none, ↓ev_tmp, ↓ev_const, ↓ev_func, ↓ev_global, init, Nat.reduceEqDiff, Nat.reduceAdd, Nat.reduceMul, Nat.reduceSub, ↓reduceIte, Int.reduceEq, Int.reduceNe, Nat.reduceLeDiff, one, Value.cells, Int.reduceLE, Int.reduceLT, Int.reduceToNat, add_mk, reduceCtorEq, List.mem_range'_1, true_and, and_true, and_false, false_and, Nat.reduceLT, Nat.reduceLeDiff, tyF]
  first | exact ⟨rfl, rfl⟩ | rfl
theorem nil_put (w : World) (p : PrefM) (now : Int) (hp : p.addr.length = 7) : Ret Try.prog 32 #[.pointer none, .agg p.cells.toArray, .int .i64 now] w fun v w' => v = .int .i64 1 ∧ More w w' := by
  refine ret_of Try.func32 rfl (by kernel_rfl) (Nat.le_of_ble_eq_true (by kernel_rfl)) ?_
  have hm1 := more_alloc w (.cells p.cells.toArray 24)
  simp (config := {maxSteps := 1000000}) only [↓zvN, zvU, ↓up_apply, ↓hv_apply, ↓upO_some, ↓upO_none, ↓ev_tmp, ↓ev_const, ↓ev_func, ↓ev_global, init, Nat.reduceEqDiff, Nat.reduceAdd, Nat.reduceMul, Nat.reduceSub, ↓reduceIte, Int.reduceEq, Int.reduceNe, Nat.reduceLeDiff, one, Value.cells, Int.reduceLE, Int.reduceLT, Int.reduceToNat, add_mk, reduceCtorEq, List.mem_range'_1, true_and, and_true, and_false, false_and, Nat.reduceLT, Nat.reduceLeDiff, tyF]
  refine call_ok Try.call52 (nil_sweep _ now) ?_
  rintro _ w2 ⟨rfl, rfl⟩
  simp (config := {maxSteps := 1000000}) only [↓zvN, zvU, ↓up_apply, ↓hv_apply, ↓upO_some, ↓upO_none, ↓ev_tmp, ↓ev_const, ↓ev_func, ↓ev_global, init, Nat.reduceEqDiff, Nat.reduceAdd, Nat.reduceMul, Nat.reduceSub, ↓reduceIte, Int.reduceEq, Int.reduceNe, Nat.reduceLeDiff, one, Value.cells, Int.reduceLE, Int.reduceLT, Int.reduceToNat, add_mk, reduceCtorEq, List.mem_range'_1, true_and, and_true, and_false, false_and, Nat.reduceLT, Nat.reduceLeDiff, tyF]
  exact ⟨rfl, hm1⟩
theorem nil_in (w : World) (p : PrefM) (now : Int) (hp : p.addr.length = 7) : Ret Try.prog 33 #[.pointer none, .agg p.cells.toArray, .int .i64 now] w fun v w' => v = .bool false ∧ More w w' := by
  refine ret_of Try.func33 rfl (by kernel_rfl) (Nat.le_of_ble_eq_true (by kernel_rfl)) ?_
  have hm1 := more_alloc w (.cells p.cells.toArray 24)
  simp (config := {maxSteps := 1000000}) only [↓zvN, zvU, ↓up_apply, ↓hv_apply, ↓upO_some, ↓upO_none, ↓ev_tmp, ↓ev_const, ↓ev_func, ↓ev_global, init, Nat.reduceEqDiff, Nat.reduceAdd, Nat.reduceMul, Nat.reduceSub, ↓reduceIte, Int.reduceEq, Int.reduceNe, Nat.reduceLeDiff, one, Value.cells, Int.reduceLE, Int.reduceLT, Int.reduceToNat, add_mk, reduceCtorEq, List.mem_range'_1, true_and, and_true, and_false, false_and, Nat.reduceLT, Nat.reduceLeDiff, tyF]
  refine call_ok Try.call52 (nil_sweep _ now) ?_
  rintro _ w2 ⟨rfl, rfl⟩
  simp (config := {maxSteps := 1000000}) only [↓zvN, zvU, ↓up_apply, ↓hv_apply, ↓upO_some, ↓upO_none, ↓ev_tmp, ↓ev_const, ↓ev_func, ↓ev_global, init, Nat.reduceEqDiff, Nat.reduceAdd, Nat.reduceMul, Nat.reduceSub, ↓reduceIte, Int.reduceEq, Int.reduceNe, Nat.reduceLeDiff, one, Value.cells, Int.reduceLE, Int.reduceLT, Int.reduceToNat, add_mk, reduceCtorEq, List.mem_range'_1, true_and, and_true, and_false, false_and, Nat.reduceLT, Nat.reduceLeDiff, tyF]
  exact ⟨rfl, hm1⟩
theorem nil_all (w : World) (now : Int) : Ret Try.prog 36 #[.pointer none, .int .i64 now] w fun v w' => v = .slice none 0 0 ∧ More w w' := by
  refine ret_of Try.func36 rfl (by kernel_rfl) (Nat.le_of_ble_eq_true (by kernel_rfl)) ?_
  simp (config := {maxSteps := 1000000}) only [↓zvN, zvU, ↓up_apply, ↓hv_apply, ↓upO_some, ↓upO_none, ↓ev_tmp, ↓ev_const, ↓ev_func, ↓ev_global, init, Nat.reduceEqDiff, Nat.reduceAdd, Nat.reduceMul, Nat.reduceSub, ↓reduceIte, Int.reduceEq, Int.reduceNe, Nat.reduceLeDiff, one, Value.cells, Int.reduceLE, Int.reduceLT, Int.reduceToNat, add_mk, reduceCtorEq, List.mem_range'_1, true_and, and_true, and_false, false_and, Nat.reduceLT, Nat.reduceLeDiff, tyF]
  refine call_ok Try.call52 (nil_sweep w now) ?_
  rintro _ w2 ⟨rfl, rfl⟩
  simp (config := {maxSteps := 1000000}) only [↓zvN, zvU, ↓up_apply, ↓hv_apply, ↓upO_some, ↓upO_none, ↓ev_tmp, ↓ev_const, ↓ev_func, ↓ev_global, init, Nat.reduceEqDiff, Nat.reduceAdd, Nat.reduceMul, Nat.reduceSub, ↓reduceIte, Int.reduceEq, Int.reduceNe, Nat.reduceLeDiff, one, Value.cells, Int.reduceLE, Int.reduceLT, Int.reduceToNat, add_mk, reduceCtorEq, List.mem_range'_1, true_and, and_true, and_false, false_and, Nat.reduceLT, Nat.reduceLeDiff, tyF]
  exact ⟨rfl, More.refl _⟩
theorem TOk.sub {burst : Int} {L L' : BoxL} (h : TOk burst L) (hs : ∀ e ∈ L', e ∈ L) : TOk burst L' := fun e he => h e (hs e he)
theorem TOk.sweep {burst : Int} {L : BoxL} (h : TOk burst L) (now : Int) : TOk burst (sweepL now L) := h.sub fun e he => (List.mem_filter.1 he).1
theorem TOk.del {burst : Int} {L : BoxL} (h : TOk burst L) (p : PrefM) : TOk burst (delL L p) := h.sub fun e he => (List.mem_filter.1 he).1
theorem take_most (t : TokM) (now n : Int) : (t.take now n).most = t.most := by
  unfold TokM.take
  split <;> rfl
theorem TOk.take {burst : Int} {L : BoxL} (h : TOk burst L) (p : PrefM) (now n : Int) : TOk burst (takeL L p now n) := by
  intro e he
  obtain ⟨d, hd, rfl⟩ := List.mem_map.1 he
  have := h d hd
  split
  · exact ⟨TokM.take_ok this.1 _ _, (take_most _ _ _).trans this.2⟩
  · exact this
theorem TOk.put {rate burst : Int} {L : BoxL} (h : TOk burst L) (ht : tokOk rate burst) (now : Int) (room : Nat) (p : PrefM) (term : Int) (q : Nat) : TOk burst (putB now L room p (newE now term rate burst q)) := by
  have hn : (newE now term rate burst q).tok.Ok ∧ (newE now term rate burst q).tok.most = burst * 1048576 := ⟨TokM.take_ok (tok0_ok ht) _ _, take_most _ _ _⟩
  have hs := h.sweep now
  unfold putB
  split
  · exact hs
  · split
    · intro e he
      obtain ⟨a, v⟩ := e
      rcases mem_putL.1 he with ⟨_, h3⟩ | ⟨_, h3⟩
      · subst h3
        exact hn
      · exact hs _ h3
    · exact hs
/-- the rows do not tell where the tokens lie -/
theorem put_rows (burst now : Int) (L : BoxL) (room : Nat) (p : PrefM) (u : Int) (q q' : Nat) (t : TokM) : (putB now L room p ⟨u, q, t⟩).flatMap (reB burst) = (putB now L room p ⟨u, q', t⟩).flatMap (reB burst) ∧ (putB now L room p ⟨u, q, t⟩).length = (putB now L room p ⟨u, q', t⟩).length := by
  unfold putB
  split
  · exact ⟨rfl, rfl⟩
  · rename_i h
    split
    · unfold putL
      rw [if_neg h, if_neg h]
      simp [List.flatMap_append, reB]
    · exact ⟨rfl, rfl⟩
/-- a block that neither the box nor any tokens lie in -/
def FarB (x b t : Nat) (L : BoxL) (k : Nat) : Prop := ¬ two b t k ∧ k ≠ x ∧ ∀ e ∈ L, e.2.q ≠ k
theorem FarB.sub {x b t : Nat} {L L' : BoxL} {k : Nat} (h : FarB x b t L k) (hs : ∀ e ∈ L', e ∈ L) : FarB x b t L' k := ⟨h.1, h.2.1, fun e he => h.2.2 e (hs e he)⟩
theorem FarB.new {w : World} {x b t room : Nat} {term rate burst : Int} {L : BoxL} (h : BoxW w x b t room term rate burst L) {k : Nat} (hk : w.heap.size ≤ k) : FarB x b t L k := by
  refine ⟨fun h1 => ?_, fun h1 => ?_, fun e he h1 => ?_⟩
  · have := h.tab.lt
    rcases h1 with h1 | h1 <;> omega
  · have := h.box.lt
    omega
  · have := (h.own.tok e he).1.lt
    omega
/-- both hold the same -/
structure PlayR (w : World) (x b t room : Nat) (term rate burst : Int) (d : Nat) (L : BoxL) : Prop where
  box : BoxW w x b t room term rate burst L
  tok : TOk burst L
  far : FarB x b t L d
  doc : ∃ A c, Blk w d 77 (rbox A L.length c room term rate burst) ∧ Cs w A (L.flatMap (reB burst)) ∧ ∀ a, A = some a → FarB x b t L a.block
/-- the box holds L', the document still L -/
structure HalfR (w : World) (x b t room : Nat) (term rate burst : Int) (d : Nat) (L L' : BoxL) (A : Option Addr) (c : Nat) : Prop where
  box : BoxW w x b t room term rate burst L'
  tok : TOk burst L'
  far : FarB x b t L' d
  var : Blk w d 77 (rbox A L.length c room term rate burst)
  rows : Cs w A (L.flatMap (reB burst))
theorem PlayR.half {w w' : World} {x b t room : Nat} {term rate burst : Int} {d : Nat} {L L' : BoxL} {S : Nat → Prop} (h : PlayR w x b t room term rate burst d L) (hB : BoxW w' x b t room term rate burst L') (hT : TOk burst L') (hm : Mod S w w') (hS : ∀ k, FarB x b t L k → ¬ S k) (hF : ∀ k, k < w.heap.size → FarB x b t L k → FarB x b t L' k) :
    ∃ A c, HalfR w' x b t room term rate burst d L L' A c := by
  obtain ⟨A, c, h1, h2, h3⟩ := h.doc
  exact ⟨A, c, hB, hT, hF d h1.lt h.far, hm.blk h1 (hS d h.far), hm.cs h2 fun a ha => hS _ (h3 a ha)⟩
theorem HalfR.more {w w' : World} {x b t room : Nat} {term rate burst : Int} {d : Nat} {L L' : BoxL} {A : Option Addr} {c : Nat} (h : HalfR w x b t room term rate burst d L L' A c) (hm : More w w') : HalfR w' x b t room term rate burst d L L' A c :=
  ⟨h.box.more hm, h.tok, h.far, h.var.more hm, h.rows.more hm⟩
theorem HalfR.close {w w2 w3 : World} {x b t room : Nat} {term rate burst : Int} {d : Nat} {L L' : BoxL} {A A' : Option Addr} {c c' : Nat} (h : HalfR w x b t room term rate burst d L L' A c) (hm : More w w2) (hA : Cs w2 A' (L'.flatMap (reB burst))) (hg : ∀ a, A' = some a → w.heap.size ≤ a.block) (hw : Wr d w2 w3) (hv : Blk w3 d 77 (rbox A' L'.length c' room term rate burst)) :
    PlayR w3 x b t room term rate burst d L' := by
  have hb2 := h.box.more hm
  have hd := h.var.lt
  refine ⟨⟨hw.blk hb2.box (fun e => h.far.2.1 e.symm), hb2.tab.mod (But.of_wr hw) (fun e => h.far.1 (.inl e.symm)) (fun e => h.far.1 (.inr e.symm)), hb2.own.mod (But.of_wr hw) (fun e he e' => h.far.2.2 e he e'), hb2.ne, hb2.room_le, hb2.ok⟩, h.tok, h.far, A', c', hv, hw.cs hA (fun a ha => by have := hg a ha; omega), fun a ha => FarB.new h.box (hg a ha)⟩
end Go.Proofs.Ytimhcjakpdebjaa
