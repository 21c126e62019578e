/-
  Layer 22: who is in the box: what lies in memory; those whose term is over go.
-/
import Derived.Test.YtimhcjakpdebjaaTok
import Derived.Test.YtimhcjakpdebjaaTabM
namespace Go.Proofs.Ytimhcjakpdebjaa
open Go Go.RowKit Go.Proofs.RV
set_option linter.unusedSimpArgs false
set_option linter.unusedVariables false
set_option maxRecDepth 10000
set_option maxHeartbeats 4000000
structure BoxE where
  until_ : Int
  q : Nat
  tok : TokM
abbrev BoxL := List (PrefM × BoxE)
def entB (e : PrefM × BoxE) : EntM := (e.1, (fun x : BoxE => [Value.int .i64 x.until_, .pointer (some ⟨x.q, 0, none⟩)]) e.2)
theorem keys_entB (L : BoxL) : keysM (L.map entB) = keysM L := keys_map (fun x : BoxE => [Value.int .i64 x.until_, .pointer (some ⟨x.q, 0, none⟩)]) L
theorem get_entB (L : BoxL) (p : PrefM) : getL (L.map entB) p = (getL L p).map fun x => [Value.int .i64 x.until_, .pointer (some ⟨x.q, 0, none⟩)] := get_map (fun x : BoxE => [Value.int .i64 x.until_, .pointer (some ⟨x.q, 0, none⟩)]) L p
theorem del_entB (L : BoxL) (p : PrefM) : delL (L.map entB) p = (delL L p).map entB := del_map (fun x : BoxE => [Value.int .i64 x.until_, .pointer (some ⟨x.q, 0, none⟩)]) L p
theorem put_entB (L : BoxL) (p : PrefM) (x : BoxE) : putL (L.map entB) p [.int .i64 x.until_, .pointer (some ⟨x.q, 0, none⟩)] = (putL L p x).map entB := put_map (fun x : BoxE => [Value.int .i64 x.until_, .pointer (some ⟨x.q, 0, none⟩)]) L p x
/-- each has tokens of its own -/
structure OwnToks (w : World) (x b t : Nat) (L : BoxL) : Prop where
  tok : ∀ e ∈ L, Blk w e.2.q 137 e.2.tok.cells ∧ e.2.tok.Ok
  sep : ∀ e ∈ L, e.2.q ≠ b ∧ e.2.q ≠ t ∧ e.2.q ≠ x
  one : ∀ e ∈ L, ∀ e' ∈ L, e.2.q = e'.2.q → e = e'
theorem OwnToks.sub {w : World} {x b t : Nat} {L L' : BoxL} (h : OwnToks w x b t L) (hs : ∀ e ∈ L', e ∈ L) : OwnToks w x b t L' :=
  ⟨fun e he => h.tok e (hs e he), fun e he => h.sep e (hs e he), fun e he e' he' => h.one e (hs e he) e' (hs e' he')⟩
theorem OwnToks.mod {w w' : World} {S : Nat → Prop} {x b t : Nat} {L : BoxL} (h : OwnToks w x b t L) (hm : Mod S w w') (hS : ∀ e ∈ L, ¬ S e.2.q) : OwnToks w' x b t L :=
  ⟨fun e he => ⟨hm.blk (h.tok e he).1 (hS e he), (h.tok e he).2⟩, h.sep, h.one⟩
structure BoxW (w : World) (x b t room : Nat) (term rate burst : Int) (L : BoxL) : Prop where
  box : Blk w x 112 [.pointer (some ⟨t, 0, none⟩), .int .i64 term, .int .i64 rate, .int .i64 burst]
  tab : TabA_box w b t (L.map entB) room
  own : OwnToks w x b t L
  ne : x ≠ b ∧ x ≠ t
  room_le : room ≤ 64
  ok : boxOk room term rate burst
theorem BoxW.more {w w' : World} {x b t room : Nat} {term rate burst : Int} {L : BoxL} (h : BoxW w x b t room term rate burst L) (hm : More w w') : BoxW w' x b t room term rate burst L :=
  ⟨h.box.more hm, h.tab.more hm, h.own.mod (S := fun _ => False) (Mod.of_more hm) (fun _ _ h => h), h.ne, h.room_le, h.ok⟩
theorem BoxW.sorted {w : World} {x b t room : Nat} {term rate burst : Int} {L : BoxL} (h : BoxW w x b t room term rate burst L) : SortedM L := by
  have := h.tab.sorted
  unfold SortedM at this ⊢
  rwa [keys_entB] at this
theorem BoxW.plen {w : World} {x b t room : Nat} {term rate burst : Int} {L : BoxL} (h : BoxW w x b t room term rate burst L) : ∀ e ∈ L, e.1.addr.length = 7 := fun e he =>
  (h.tab.typed (p := (entB e).1) (v := (entB e).2) (List.mem_map.2 ⟨e, he, rfl⟩)).2
/-- a variable for an entry -/
def EntF (B : Nat) (v : Value) (w : World) : Prop := ∃ r : Nat, v = .pointer (some ⟨r, 0, none⟩) ∧ B ≤ r ∧ ∃ cs, Blk w r 108 cs ∧ cs.length = 2
/-- whose term isn't over -/
def aliveB (now : Int) (e : PrefM × BoxE) : Bool := decide (max now 0 < e.2.until_)
def sweepL (now : Int) (L : BoxL) : BoxL := L.filter (aliveB now)
def partL (now : Int) (L : BoxL) (k : Nat) : BoxL := (L.take k).filter (aliveB now) ++ L.drop k
theorem del_cut' {α : Type} {l : List (PrefM × α)} (hn : (keysM l).Nodup) {p : PrefM} {i : Nat} {e : PrefM × α} (he : l[i]? = some e) (hp : e.1 = p) : delL l p = l.take i ++ l.drop (i + 1) := by
  have hi : i < l.length := (List.getElem?_eq_some_iff.1 he).1
  have hsplit : l = l.take i ++ e :: l.drop (i + 1) := by
    conv => lhs; rw [← List.take_append_drop i l, List.drop_eq_getElem_cons hi]
    rw [List.getElem?_eq_getElem hi] at he
    rw [Option.some.inj he]
  have hno : ∀ (j : Nat) (d : PrefM × α), l[j]? = some d → j ≠ i → d.1 ≠ p := by
    intro j d hj hne hd
    have h1 : (keysM l)[i]? = some p := by unfold keysM; rw [List.getElem?_map, he]; simp [hp]
    have h2 : (keysM l)[j]? = some p := by unfold keysM; rw [List.getElem?_map, hj]; simp [hd]
    exact hne (((List.getElem?_inj (by unfold keysM; simpa using hi) hn).1 (h1.trans h2.symm)).symm)
  unfold delL
  conv => lhs; rw [hsplit]
  rw [List.filter_append, List.filter_cons_of_neg (by simp [hp])]
  congr 1
  · rw [List.filter_eq_self]
    intro d hd
    obtain ⟨j, hj⟩ := List.getElem?_of_mem hd
    have hjl : j < i := by have := (List.getElem?_eq_some_iff.1 hj).1; rw [List.length_take] at this; omega
    rw [List.getElem?_take, if_pos hjl] at hj
    simpa using hno j d hj (by omega)
  · rw [List.filter_eq_self]
    intro d hd
    obtain ⟨j, hj⟩ := List.getElem?_of_mem hd
    rw [List.getElem?_drop] at hj
    simpa using hno _ d hj (by omega)
theorem partL_sub (now : Int) (L : BoxL) (k : Nat) : ∀ e ∈ partL now L k, e ∈ L := by
  intro e he
  rcases List.mem_append.1 he with h | h
  · exact List.mem_of_mem_take (List.mem_filter.1 h).1
  · exact List.mem_of_mem_drop h
def SweepJ (now : Int) (L : BoxL) (x b t room : Nat) (term rate burst : Int) (w : World) (v17 : Value) (w' : World) : Prop :=
  ∃ k : Nat, v17 = .int .i64 k ∧ k ≤ L.length ∧ BoxW w' x b t room term rate burst (partL now L k) ∧ Mod (two b t) w w'
/-- what a search answers, at whatever later time -/
def GetsB (w0 : World) (t : Nat) (p : PrefM) (V1 V2 : Value) (ok : Bool) : Prop :=
  ∀ w, More w0 w → Ret Try.prog 53 #[.pointer (some ⟨t, 0, none⟩), .agg p.cells.toArray] w fun v w' => v = .tuple #[.agg #[V1, V2], .bool ok] ∧ More w w'
theorem gets_some {w0 : World} {x b t room : Nat} {term rate burst : Int} {L : BoxL} {p : PrefM} {e : BoxE} (h : BoxW w0 x b t room term rate burst L) (hp : p.addr.length = 7) (hg : getL L p = some e) : GetsB w0 t p (.int .i64 e.until_) (.pointer (some ⟨e.q, 0, none⟩)) true := by
  intro w hm
  refine Calls.mono (tab_get_box w b t (L.map entB) room p hp (h.tab.more hm)) ?_
  rintro en w' ⟨v, rfl, _, h2, h3⟩
  exact ⟨v, rfl, h2 _ _ (by rw [get_entB, hg]; rfl), h3⟩
theorem gets_none {w0 : World} {x b t room : Nat} {term rate burst : Int} {L : BoxL} {p : PrefM} (h : BoxW w0 x b t room term rate burst L) (hp : p.addr.length = 7) (hg : getL L p = none) : GetsB w0 t p (.int .i64 0) (.pointer none) false := by
  intro w hm
  refine Calls.mono (tab_get_box w b t (L.map entB) room p hp (h.tab.more hm)) ?_
  rintro en w' ⟨v, rfl, h1, _, h3⟩
  exact ⟨v, rfl, h1 (by rw [get_entB, hg]; rfl), h3⟩
def OneCells (V1 V2 : Value) : Prop := V1.oneCell' = true ∧ V2.oneCell' = true
theorem box_sweep (w : World) (x b t room : Nat) (term rate burst : Int) (L : BoxL) (now : Int) (hB : BoxW w x b t room term rate burst L) :
    Ret Try.prog 52 #[.pointer (some ⟨x, 0, none⟩), .int .i64 now] w fun v w' => v = .bool true ∧ BoxW w' x b t room term rate burst (sweepL now L) ∧ Mod (two b t) w w' := by
  refine ret_of Try.func52 rfl (by kernel_rfl) (Nat.le_of_ble_eq_true (by kernel_rfl)) ?_
  have cx := hB.box.cell 0
  simp only [List.getElem?_cons_zero] at cx
  simp (config := {maxSteps := 1000000}) only [↓zvN, zvU, ↓up_apply, ↓hv_apply, ↓upO_some, ↓upO_none, ↓ev_tmp, ↓ev_const, ↓ev_func, ↓ev_global, init, Nat.reduceEqDiff, Nat.reduceAdd, Nat.reduceMul, Nat.reduceSub, ↓reduceIte, Int.reduceEq, Int.reduceNe, Nat.reduceLeDiff, one, Value.cells, Int.reduceLE, Int.reduceLT, Int.reduceToNat, add_mk, reduceCtorEq, List.mem_range'_1, true_and, and_true, and_false, false_and, Nat.reduceLT, Nat.reduceLeDiff, tyF, cx]
  refine call_ok Try.call58 (tab_all_box w b t _ room hB.tab) ?_
  rintro _ w1 ⟨A, c, rfl, hA, hAb, hm1⟩
  rw [keys_entB] at hA ⊢
  have hbt := hB.tab.lt
  have hxl := hB.box.lt
  have hLr : L.length ≤ 64 := by have := hB.tab.le; have := hB.room_le; simp at *; omega
  have hkl : (keysM L).length = L.length := by unfold keysM; rw [List.length_map]
  have hpl := hB.plen
  have hkp : ∀ p ∈ keysM L, p.cells.length = 8 := fun p hp => by obtain ⟨u, hu⟩ := mem_keys.1 hp; have := hpl _ hu; simp [PrefM.cells, this]
  rw [hkl]
  simp (config := {maxSteps := 1000000}) only [↓zvN, zvU, ↓up_apply, ↓hv_apply, ↓upO_some, ↓upO_none, ↓ev_tmp, ↓ev_const, ↓ev_func, ↓ev_global, init, Nat.reduceEqDiff, Nat.reduceAdd, Nat.reduceMul, Nat.reduceSub, ↓reduceIte, Int.reduceEq, Int.reduceNe, Nat.reduceLeDiff, one, Value.cells, Int.reduceLE, Int.reduceLT, Int.reduceToNat, add_mk, reduceCtorEq, List.mem_range'_1, true_and, and_true, and_false, false_and, Nat.reduceLT, Nat.reduceLeDiff, tyF]
  refine loop_p (6 :: 7 :: 8 :: List.range' 17 25) (fun e w' => SweepJ now L x b t room term rate burst w1 (e 17) w') (fun e _ => L.length - (numOf (e 17)).toNat) ?_ ?_
  · exact ⟨0, by simp only [hv_apply, up_apply, upO_some, upO_none, init, List.mem_cons, List.mem_range'_1, true_and, and_true, and_false, false_and, Nat.reduceLT, Nat.reduceLeDiff, Nat.reduceAdd, true_or, or_true, if_true, if_false, ↓reduceIte, Nat.reduceEqDiff, false_or, or_false, List.not_mem_nil, List.getElem?_cons_zero, List.getElem?_cons_succ, Option.getD_some] <;> rfl, by omega, by simpa [partL] using hB.more hm1, Mod.refl _ _⟩
  rintro v w2 ⟨k, h17, hk, hB2, hm2⟩
  simp only [hv_apply, up_apply, upO_some, upO_none, init, List.mem_cons, List.mem_range'_1, true_and, and_true, and_false, false_and, Nat.reduceLT, Nat.reduceLeDiff, Nat.reduceAdd, true_or, or_true, if_true, if_false, ↓reduceIte, Nat.reduceEqDiff, false_or, or_false, List.not_mem_nil, List.getElem?_cons_zero, List.getElem?_cons_succ, Option.getD_some] at h17
  have ek : IntKind.i64.wrap ((k : Int) + 1) = ((k + 1 : Nat) : Int) := w64 (by omega) (by omega)
  simp (config := {maxSteps := 1000000}) only [↓zvN, zvU, ↓up_apply, ↓hv_apply, ↓upO_some, ↓upO_none, ↓ev_tmp, ↓ev_const, ↓ev_func, ↓ev_global, init, Nat.reduceEqDiff, Nat.reduceAdd, Nat.reduceMul, Nat.reduceSub, ↓reduceIte, Int.reduceEq, Int.reduceNe, Nat.reduceLeDiff, one, Value.cells, Int.reduceLE, Int.reduceLT, Int.reduceToNat, add_mk, reduceCtorEq, List.mem_range'_1, true_and, and_true, and_false, false_and, Nat.reduceLT, Nat.reduceLeDiff, tyF, h17]
  refine ⟨fun h9 => ?_, fun h9 => ?_⟩
  rotate_left
  · obtain rfl : k = L.length := by omega
    have e : partL now L L.length = sweepL now L := by unfold partL sweepL; rw [List.take_length, List.drop_length, List.append_nil]
    rw [e] at hB2
    exact ⟨rfl, hB2, (Mod.of_more hm1).trans hm2⟩
  obtain ⟨e, he⟩ := row_nat L k (by omega)
  have hel := List.mem_of_getElem? he
  have hep := hpl e hel
  have hke : (keysM L)[k]? = some e.1 := by unfold keysM; rw [List.getElem?_map, he]; rfl
  obtain ⟨ad, rfl⟩ := hA.some_of (by rw [row_len _ hkp]; omega)
  have hA2 : Cs w2 (some ad) ((keysM L).flatMap PrefM.cells) := hm2.cs hA (fun a ha => by have := hAb a ha; rintro (h | h) <;> omega)
  have rd := hA2.rowEq hkp hke
  have g0 : (0 : Int) ≤ (k : Int) := by omega
  simp (config := {maxSteps := 1000000}) only [↓zvN, zvU, ↓up_apply, ↓hv_apply, ↓upO_some, ↓upO_none, ↓ev_tmp, ↓ev_const, ↓ev_func, ↓ev_global, init, Nat.reduceEqDiff, Nat.reduceAdd, Nat.reduceMul, Nat.reduceSub, ↓reduceIte, Int.reduceEq, Int.reduceNe, Nat.reduceLeDiff, one, Value.cells, Int.reduceLE, Int.reduceLT, Int.reduceToNat, add_mk, reduceCtorEq, List.mem_range'_1, true_and, and_true, and_false, false_and, Nat.reduceLT, Nat.reduceLeDiff, tyF, h17, g0, h9, rd, Int.toNat_natCast, zerPref]
  have hm3 := more_alloc w2 (.cells prefZ.cells.toArray 24)
  have hb3 := Blk.new w2 24 prefZ.cells.toArray
  obtain ⟨w3, hw3⟩ : ∃ w3, w2.alloc (.cells prefZ.cells.toArray 24) = w3 := ⟨_, rfl⟩
  rw [hw3] at hm3 hb3 ⊢
  clear hw3
  have h8 : e.1.cells.length = 8 := by simp [PrefM.cells, hep]
  refine st_all hb3 (by simpa using h8) rfl (by simpa using PrefM.one e.1) fun w4 j1 j2 => ?_
  rw [s2_undef]
  rw [List.toList_toArray] at j2
  have hm4 : More w2 w4 := more_but hm3 (But.of_wr j1) (Nat.le_refl _)
  obtain ⟨pb, hpb⟩ : ∃ q, w2.heap.size = q := ⟨_, rfl⟩
  rw [hpb] at j2 ⊢
  have hB4 := hB2.more hm4
  have hpn : ¬ two b t pb := by have := hB2.tab.lt; rintro (h | h) <;> omega
  have hsrt := hB2.sorted
  have hin : e ∈ partL now L k := List.mem_append.2 (.inr (by rw [List.drop_eq_getElem_cons (by omega)]; rw [List.getElem?_eq_getElem (by omega)] at he; rw [Option.some.inj he]; exact List.mem_cons_self ..))
  have hge : getL (partL now L k) e.1 = some e.2 := get_some hsrt hin
  have hget := gets_some hB4 hep hge
  have cx4 := hB4.box.cell 0
  simp only [List.getElem?_cons_zero] at cx4
  have lx4 := hB4.box.lt
  have v4 := j2.all_eq 8 h8
  have l4 := j2.lt
  simp (config := {maxSteps := 1000000}) only [↓zvN, zvU, ↓up_apply, ↓hv_apply, ↓upO_some, ↓upO_none, ↓ev_tmp, ↓ev_const, ↓ev_func, ↓ev_global, init, Nat.reduceEqDiff, Nat.reduceAdd, Nat.reduceMul, Nat.reduceSub, ↓reduceIte, Int.reduceEq, Int.reduceNe, Nat.reduceLeDiff, one, Value.cells, Int.reduceLE, Int.reduceLT, Int.reduceToNat, add_mk, reduceCtorEq, List.mem_range'_1, true_and, and_true, and_false, false_and, Nat.reduceLT, Nat.reduceLeDiff, tyF, p_nil]
  refine draw_name fun K hK => ?_
  refine draw_finH 108 [.int .i64 e.2.until_, .pointer (some ⟨e.2.q, 0, none⟩)] 11 [[], [0], [0, 1], [0, 1, 2], [], [0, 1, 2, 3, 4], [0, 1, 2, 3, 4, 5], [0, 1, 2, 3, 4, 5, 6], [0, 1, 2, 3, 4, 5, 6], [], [0, 1, 2, 3, 4, 5, 6, 7, 9], [0, 1, 2, 3, 4, 5, 6, 7, 8, 9, 10]]
    [(5, fun _ v _ => v = .tuple #[.agg #[.int .i64 e.2.until_, .pointer (some ⟨e.2.q, 0, none⟩)], .bool true]), (9, fun _ v w' => EntF w4.heap.size v w'), (10, fun g _ w' => ∀ r, g[0]? = some (.pointer (some ⟨r, 0, none⟩)) → Blk w' r 108 [.int .i64 e.2.until_, .pointer (some ⟨e.2.q, 0, none⟩)])] mixed (by kernel_rfl) (by kernel_rfl) ?_ ?_
  · intro y hy g v a b hab
    simp only [List.mem_cons, List.not_mem_nil, or_false] at hy
    rcases hy with rfl | rfl | rfl
    · exact fun h => h
    · rintro ⟨r, rfl, h1, h2⟩
      exact ⟨r, rfl, h1, hab.some h2⟩
    · intro h r hr
      exact hab.done (h r hr)
  simp (config := {maxSteps := 1000000}) only [↓zvN, zvU, ↓zqD, ↓h_cons, ↓hs_guard, ↓hs_none, ↓h_some, ↓hs_nil, ↓lookH_nil, ↓lookH_cons, ↓given_store, ↓up_apply, ↓hv_apply, ↓upO_some, ↓upO_none, ↓ev_tmp, ↓ev_const, ↓ev_func, ↓ev_global, init, Nat.reduceEqDiff, Nat.reduceAdd, Nat.reduceMul, Nat.reduceSub, ↓reduceIte, Int.reduceEq, Int.reduceNe, Nat.reduceLeDiff, one, Value.cells, Int.reduceLE, Int.reduceLT, Int.reduceToNat, add_mk, reduceCtorEq, List.mem_range'_1, true_and, and_true, and_false, false_and, Nat.reduceLT, Nat.reduceLeDiff, tyF, cx4, lx4, v4, l4]
  refine ⟨fun w5 hf5 => ?_, ?_⟩
  · refine call_ok Try.call53 (hget w5 hf5.below) ?_
    rintro _ w6 ⟨rfl, hm6⟩
    simp (config := {maxSteps := 1000000}) only [↓zvN, zvU, ↓zqD, ↓h_cons, ↓hs_guard, ↓hs_none, ↓h_some, ↓hs_nil, ↓lookH_nil, ↓lookH_cons, ↓given_store, ↓up_apply, ↓hv_apply, ↓upO_some, ↓upO_none, ↓ev_tmp, ↓ev_const, ↓ev_func, ↓ev_global, init, Nat.reduceEqDiff, Nat.reduceAdd, Nat.reduceMul, Nat.reduceSub, ↓reduceIte, Int.reduceEq, Int.reduceNe, Nat.reduceLeDiff, one, Value.cells, Int.reduceLE, Int.reduceLT, Int.reduceToNat, add_mk, reduceCtorEq, List.mem_range'_1, true_and, and_true, and_false, false_and, Nat.reduceLT, Nat.reduceLeDiff, tyF]
    exact Fin.of_more hm6 hf5.below.size
  rintro _ ⟨w5, hf5, rfl⟩
  simp (config := {maxSteps := 1000000}) only [↓zvN, zvU, ↓zqD, ↓h_cons, ↓hs_guard, ↓hs_none, ↓h_some, ↓hs_nil, ↓lookH_nil, ↓lookH_cons, ↓given_store, ↓up_apply, ↓hv_apply, ↓upO_some, ↓upO_none, ↓ev_tmp, ↓ev_const, ↓ev_func, ↓ev_global, init, Nat.reduceEqDiff, Nat.reduceAdd, Nat.reduceMul, Nat.reduceSub, ↓reduceIte, Int.reduceEq, Int.reduceNe, Nat.reduceLeDiff, one, Value.cells, Int.reduceLE, Int.reduceLT, Int.reduceToNat, add_mk, reduceCtorEq, List.mem_range'_1, true_and, and_true, and_false, false_and, Nat.reduceLT, Nat.reduceLeDiff, tyF, zerEntry]
  refine ⟨fun w6 hf6 => ?_, ?_⟩
  · have hle := hf6.below.size
    have hmm := more_alloc w6 (.cells #[.int .i64 0, .pointer none] 108)
    exact ⟨Fin.of_more hmm hle, w6.heap.size, rfl, hle, _, Blk.new .., rfl⟩
  rintro _ ⟨w6, hf6, r, rfl, hr, _⟩
  simp (config := {maxSteps := 1000000}) only [↓zvN, zvU, ↓zqD, ↓h_cons, ↓hs_guard, ↓hs_none, ↓h_some, ↓hs_nil, ↓lookH_nil, ↓lookH_cons, ↓given_store, ↓up_apply, ↓hv_apply, ↓upO_some, ↓upO_none, ↓ev_tmp, ↓ev_const, ↓ev_func, ↓ev_global, init, Nat.reduceEqDiff, Nat.reduceAdd, Nat.reduceMul, Nat.reduceSub, ↓reduceIte, Int.reduceEq, Int.reduceNe, Nat.reduceLeDiff, one, Value.cells, Int.reduceLE, Int.reduceLT, Int.reduceToNat, add_mk, reduceCtorEq, List.mem_range'_1, true_and, and_true, and_false, false_and, Nat.reduceLT, Nat.reduceLeDiff, tyF]
  refine ⟨fun w7 hf7 hd7 => ?_, ?_⟩
  · obtain ⟨r', er, _, cs, hcs, hcl⟩ := hd7
    cases er
    refine st_all hcs rfl hcl (by intro u hu; simp at hu; rcases hu with rfl | rfl <;> rfl) fun w8 k1 k2 => ?_
    refine ⟨Fin.of_wr k1 hcs k2 hr, fun r1 h1 => ?_⟩
    cases h1
    exact k2
  rintro _ ⟨w7, hf7, _, _⟩
  rw [stop1]
  simp (config := {maxSteps := 1000000}) only [↓zvN, zvU, ↓zqD, ↓h_cons, ↓hs_guard, ↓hs_none, ↓h_some, ↓hs_nil, ↓lookH_nil, ↓lookH_cons, ↓given_store, ↓up_apply, ↓hv_apply, ↓upO_some, ↓upO_none, ↓ev_tmp, ↓ev_const, ↓ev_func, ↓ev_global, init, Nat.reduceEqDiff, Nat.reduceAdd, Nat.reduceMul, Nat.reduceSub, ↓reduceIte, Int.reduceEq, Int.reduceNe, Nat.reduceLeDiff, one, Value.cells, Int.reduceLE, Int.reduceLT, Int.reduceToNat, add_mk, reduceCtorEq, List.mem_range'_1, true_and, and_true, and_false, false_and, Nat.reduceLT, Nat.reduceLeDiff, tyF]
  intro w8 hf8 hd8
  have hb8 : Blk w8 r 108 [.int .i64 e.2.until_, .pointer (some ⟨e.2.q, 0, none⟩)] := (by
    first
    | exact hd8 r rfl
    | exact hd8.1 r rfl
    | exact hd8.2 r rfl
    | exact hd8.2.1 r rfl
    | exact hd8.2.2 r rfl)
  have hm8 : More w4 w8 := hf8.below
  try simp (config := {maxSteps := 1000000}) only [↓zvN, zvU, ↓up_apply, ↓hv_apply, ↓upO_some, ↓upO_none, ↓ev_tmp, ↓ev_const, ↓ev_func, ↓ev_global, init, Nat.reduceEqDiff, Nat.reduceAdd, Nat.reduceMul, Nat.reduceSub, ↓reduceIte, Int.reduceEq, Int.reduceNe, Nat.reduceLeDiff, one, Value.cells, Int.reduceLE, Int.reduceLT, Int.reduceToNat, add_mk, reduceCtorEq, List.mem_range'_1, true_and, and_true, and_false, false_and, Nat.reduceLT, Nat.reduceLeDiff, tyF, p_nil]
  refine hK _ _ ?_
  clear hK K
  have c0 : w8.cell? ⟨r, 0, none⟩ = some (.int .i64 e.2.until_) := by rw [hb8.cell]; rfl
  have emax : (if now < 0 then (0 : Int) else now) = max now 0 := by split <;> omega
  have hB8 := hB4.more hm8
  have hdrop : L.drop k = e :: L.drop (k + 1) := by
    rw [List.drop_eq_getElem_cons (by omega)]
    congr 1
    rw [List.getElem?_eq_getElem (by omega)] at he
    exact Option.some.inj he
  have htake : L.take (k + 1) = L.take k ++ [e] := by rw [List.take_add_one, he]; rfl
  have hm28 : Mod (two b t) w1 w8 := hm2.trans (Mod.of_more (hm4.trans hm8))
  by_cases hal : e.2.until_ ≤ max now 0
  · have hpart : partL now L (k + 1) = delL (partL now L k) e.1 := by
      have hsp : partL now L k = (L.take k).filter (aliveB now) ++ e :: L.drop (k + 1) := by unfold partL; rw [hdrop]
      rw [del_cut' (l := partL now L k) (i := ((L.take k).filter (aliveB now)).length) (e := e) hsrt.nodup (by rw [hsp]; simp) rfl, hsp]
      unfold partL
      rw [htake, List.filter_append, List.filter_cons_of_neg (by unfold aliveB; simp; omega)]
      simp
    have cx8 := hB8.box.cell 0
    simp only [List.getElem?_cons_zero] at cx8
    have lx8 := hB8.box.lt
    have v8 := (j2.more hm8).all_eq 8 h8
    have l8 := (j2.more hm8).lt
    simp (config := {maxSteps := 1000000}) only [↓zvN, zvU, ↓up_apply, ↓hv_apply, ↓upO_some, ↓upO_none, ↓ev_tmp, ↓ev_const, ↓ev_func, ↓ev_global, init, Nat.reduceEqDiff, Nat.reduceAdd, Nat.reduceMul, Nat.reduceSub, ↓reduceIte, Int.reduceEq, Int.reduceNe, Nat.reduceLeDiff, one, Value.cells, Int.reduceLE, Int.reduceLT, Int.reduceToNat, add_mk, reduceCtorEq, List.mem_range'_1, true_and, and_true, and_false, false_and, Nat.reduceLT, Nat.reduceLeDiff, tyF, c0, emax, hal]
    refine draw_seen 5 [[], [0], [0, 1], [0, 1, 2], [], [0, 1, 2, 3, 4]] (RV.look []) mixed (by kernel_rfl) (by kernel_rfl) (look_keeps _ (by simp)) ?_
    simp (config := {maxSteps := 1000000}) only [↓zvN, zvU, ↓zqD, ↓up_apply, ↓hv_apply, ↓upO_some, ↓upO_none, ↓ev_tmp, ↓ev_const, ↓ev_func, ↓ev_global, init, Nat.reduceEqDiff, Nat.reduceAdd, Nat.reduceMul, Nat.reduceSub, ↓reduceIte, Int.reduceEq, Int.reduceNe, Nat.reduceLeDiff, one, Value.cells, Int.reduceLE, Int.reduceLT, Int.reduceToNat, add_mk, reduceCtorEq, List.mem_range'_1, true_and, and_true, and_false, false_and, Nat.reduceLT, Nat.reduceLeDiff, tyF, cx8, lx8, v8, l8]
    intro w9 hm9
    try simp (config := {maxSteps := 1000000}) only [↓zvN, zvU, ↓up_apply, ↓hv_apply, ↓upO_some, ↓upO_none, ↓ev_tmp, ↓ev_const, ↓ev_func, ↓ev_global, init, Nat.reduceEqDiff, Nat.reduceAdd, Nat.reduceMul, Nat.reduceSub, ↓reduceIte, Int.reduceEq, Int.reduceNe, Nat.reduceLeDiff, one, Value.cells, Int.reduceLE, Int.reduceLT, Int.reduceToNat, add_mk, reduceCtorEq, List.mem_range'_1, true_and, and_true, and_false, false_and, Nat.reduceLT, Nat.reduceLeDiff, tyF, p_nil]
    have hB9 := hB8.more hm9
    refine call_ok Try.call57 (tab_del_box w9 b t _ room e.1 hep hB9.tab hB9.room_le) ?_
    rintro _ w10 ⟨rfl, hT10, hm10⟩
    rw [del_entB, ← hpart] at hT10
    have hB10 : BoxW w10 x b t room term rate burst (partL now L (k + 1)) :=
      ⟨hm10.blk hB9.box (by rintro (h | h); exact hB9.ne.1 h; exact hB9.ne.2 h), hT10,
       (hB9.own.mod hm10 (fun d hd => by have := hB9.own.sep d hd; rintro (h | h); exact this.1 h; exact this.2.1 h)).sub (fun d hd => by rw [hpart] at hd; exact (List.mem_filter.1 hd).1), hB9.ne, hB9.room_le, hB9.ok⟩
    simp (config := {maxSteps := 1000000}) only [↓zvN, zvU, ↓up_apply, ↓hv_apply, ↓upO_some, ↓upO_none, ↓ev_tmp, ↓ev_const, ↓ev_func, ↓ev_global, init, Nat.reduceEqDiff, Nat.reduceAdd, Nat.reduceMul, Nat.reduceSub, ↓reduceIte, Int.reduceEq, Int.reduceNe, Nat.reduceLeDiff, one, Value.cells, Int.reduceLE, Int.reduceLT, Int.reduceToNat, add_mk, reduceCtorEq, List.mem_range'_1, true_and, and_true, and_false, false_and, Nat.reduceLT, Nat.reduceLeDiff, tyF, p_nil, h17, ek]
    refine ⟨⟨?_, k + 1, rfl, by omega, hB10, (hm28.trans (Mod.of_more hm9)).trans hm10⟩, by simp only [numOf]; omega⟩
    repeat (first | exact Same.hv _ _ _ | refine Same.up (by simp) ?_)
  · have hpart : partL now L (k + 1) = partL now L k := by
      unfold partL
      rw [htake, List.filter_append, List.filter_cons_of_pos (by unfold aliveB; simp; omega), hdrop]
      simp
    simp (config := {maxSteps := 1000000}) only [↓zvN, zvU, ↓up_apply, ↓hv_apply, ↓upO_some, ↓upO_none, ↓ev_tmp, ↓ev_const, ↓ev_func, ↓ev_global, init, Nat.reduceEqDiff, Nat.reduceAdd, Nat.reduceMul, Nat.reduceSub, ↓reduceIte, Int.reduceEq, Int.reduceNe, Nat.reduceLeDiff, one, Value.cells, Int.reduceLE, Int.reduceLT, Int.reduceToNat, add_mk, reduceCtorEq, List.mem_range'_1, true_and, and_true, and_false, false_and, Nat.reduceLT, Nat.reduceLeDiff, tyF, c0, emax, hal, h17, ek]
    refine ⟨⟨?_, k + 1, rfl, by omega, by rw [hpart]; exact hB8, hm28⟩, by simp only [numOf]; omega⟩
    repeat (first | exact Same.hv _ _ _ | refine Same.up (by simp) ?_)
end Go.Proofs.Ytimhcjakpdebjaa
