/-
  Layer 9: the reference's reading of a packet.
-/
import Derived.Test.YtgbhgjghlnknjaaRefA
namespace Go.Proofs.Ytgbhgjghlnknjaa
open Go Go.RowKit Go.Proofs.RV
set_option linter.unusedSimpArgs false
set_option linter.unusedVariables false

/-- how far the addresses are copied -/
def part4 (l : List UInt8) (A : Option Addr) (c k : Nat) : List Value :=
  .int .u8 (bt l 9) :: (((l.drop 12).take k ++ noBytes (16 - k)).map byteV ++ (((l.drop 16).take k ++ noBytes (16 - k)).map byteV ++ [.slice A ((l.take (two l 2).toNat).drop (head4 l).toNat).length c, .bool (decide (two l 6 % 8192 = 0))]))
theorem part4_len (l : List UInt8) (A : Option Addr) (c k : Nat) (hk : k ≤ 4) (hl : 20 ≤ l.length) : (part4 l A c k).length = 35 := by
  simp [part4, noBytes]; omega
theorem part4_step (l : List UInt8) (A : Option Addr) (c k : Nat) (hk : k < 4) (hl : 20 ≤ l.length) : ((part4 l A c k).set (1 + k) (.int .u8 (bt l (12 + k)))).set (17 + k) (.int .u8 (bt l (16 + k))) = part4 l A c (k + 1) := by
  have e1 : bt l (12 + k) = bt (l.drop 12) k := (bt_drop l 12 k).symm
  have e2 : bt l (16 + k) = bt (l.drop 16) k := (bt_drop l 16 k).symm
  unfold part4
  rw [e1, e2]
  have h1 : 4 ≤ (l.drop 12).length := by simp; omega
  have h2 : 4 ≤ (l.drop 16).length := by simp; omega
  generalize l.drop 12 = s at h1 ⊢
  generalize l.drop 16 = d at h2 ⊢
  match s, h1, d, h2 with
  | a1 :: a2 :: a3 :: a4 :: s, _, d1 :: d2 :: d3 :: d4 :: d, _ =>
    match k, hk with
    | 0, _ => rfl
    | 1, _ => rfl
    | 2, _ => rfl
    | 3, _ => rfl
/-- a slice lies where another lies -/
def SameBlk (A' A : Option Addr) : Prop := ∀ z, A' = some z → ∃ a, A = some a ∧ z.block = a.block
theorem adv_blk {a : Addr} {c k s : Nat} : ∀ z, adv (some a) c k s = some z → z.block = a.block := by
  intro z hz
  unfold adv at hz
  split at hz
  · cases hz
    rfl
  · simp only [Option.map_some, Option.some.injEq] at hz
    subst hz
    exact add_block _ _
def CopyJ (l : List UInt8) (A : Option Addr) (c : Nat) (w : World) (p : Nat) (v66 : Value) (w' : World) : Prop :=
  ∃ k : Nat, v66 = .int .i64 k ∧ k ≤ 4 ∧ Blk w' p 99 (part4 l A c k) ∧ Blk w' w.heap.size 99 netZ ∧ More w w'
set_option maxRecDepth 10000 in
set_option maxHeartbeats 2000000 in
theorem ref_parse (w : World) (A : Option Addr) (l : List UInt8) (c : Nat) (hA : Bs w A l) (hc : l.length ≤ c) (hl : l.length ≤ 1000000) :
    Ret Try.prog 49 #[.slice A l.length c] w fun v w' => ∃ A' c', v = .tuple #[.agg ((parse4 l).cells A' c').toArray, .int .i64 (why4 l)] ∧ (Bs w' A' (parse4 l).body ∧ SameBlk A' A) ∧ More w w' := by
  have bad : ∀ r, why4 l = r → r ≠ 0 → ∀ w', More w w' → ∃ A' c', Value.tuple #[.agg netZ.toArray, .int .i64 r] = .tuple #[.agg ((parse4 l).cells A' c').toArray, .int .i64 (why4 l)] ∧ (Bs w' A' (parse4 l).body ∧ SameBlk A' A) ∧ More w w' := by
    intro r hr hr0 w' hm
    have : parse4 l = netNone := by unfold parse4; rw [if_neg (by rw [hr]; exact hr0)]
    rw [this, hr]
    exact ⟨none, 0, rfl, ⟨Cs.nil _ _, fun z hz => by cases hz⟩, hm⟩
  refine ret_of Try.func49 rfl (by kernel_rfl) (by show 1 ≤ 87; omega) ?_
  have hm1 := more_alloc w (.cells netZ.toArray 99)
  have hb1 := Blk.new w 99 netZ.toArray
  have b0 := bt_nonneg l 0
  have b1 := bt_lt l 0
  have m0 : Int.tmod (bt l 0) 16 = bt l 0 % 16 := Int.tmod_eq_emod_of_nonneg b0
  have d0 : Int.tdiv (bt l 0) 16 = bt l 0 / 16 := Int.tdiv_eq_ediv_of_nonneg b0
  simp (config := {maxSteps := 1000000}) only [↓zvD, zvU, ↓up_apply, ↓hv_apply, ↓upO_some, ↓upO_none, ↓ev_tmp, ↓ev_const, ↓ev_func, ↓ev_global, init, Nat.reduceEqDiff, Nat.reduceAdd, Nat.reduceMul, Nat.reduceSub, ↓reduceIte, Int.reduceEq, Int.reduceNe, Nat.reduceLeDiff, one, Value.cells, Int.reduceLE, Int.reduceLT, Int.reduceToNat, add_mk, reduceCtorEq, List.take_succ_cons, List.take_zero, List.drop_succ_cons, List.drop_zero, Try.underlying22, Try.underlying5, Try.underlying3, Try.underlying4, Try.underlying24, Try.underlying99, Try.underlying9, cells99, cells5, cells3, cells4, cells24, cells22, Try.results49, zerNetR]
  generalize w.alloc (.cells netZ.toArray 99) = w1 at hm1 hb1 ⊢
  have bn := build0_eq (P := Try.prog) Try.underlying99 zerNetR netFields w
  have sz := st_same_eq hb1 (n := 35) rfl (by simpa using netZ_one)
  have rd := hb1.all_eq 35 rfl
  simp only [List.toList_toArray] at sz rd
  refine ⟨fun h1 => ?_, fun h1 => ?_⟩
  · simp (config := {maxSteps := 1000000}) only [↓zvD, zvU, ↓up_apply, ↓hv_apply, ↓upO_some, ↓upO_none, ↓ev_tmp, ↓ev_const, ↓ev_func, ↓ev_global, init, Nat.reduceEqDiff, Nat.reduceAdd, Nat.reduceMul, Nat.reduceSub, ↓reduceIte, Int.reduceEq, Int.reduceNe, Nat.reduceLeDiff, one, Value.cells, Int.reduceLE, Int.reduceLT, Int.reduceToNat, add_mk, reduceCtorEq, List.take_succ_cons, List.take_zero, List.drop_succ_cons, List.drop_zero, Try.underlying22, Try.underlying5, Try.underlying3, Try.underlying4, Try.underlying24, Try.underlying99, Try.underlying9, cells99, cells5, cells3, cells4, cells24, cells22, Try.results49, bn, sz, rd]
    exact bad 1 (by unfold why4; rw [if_pos h1]) (by omega) _ hm1
  obtain ⟨a, rfl⟩ := hA.isAt (by omega)
  have hA1 := hA.more hm1
  have c0 := hA1.cellN (i := 0) (by omega)
  have g0 : (0 : Int) < l.length := by omega
  have w1' : IntKind.i64.wrap (bt l 0) = bt l 0 := w64_byte l 0
  have w2' : IntKind.u8.wrap (bt l 0 / 16) = bt l 0 / 16 := wu8 (by omega) (by omega)
  have w3' : IntKind.i64.wrap (4 * (bt l 0 % 16)) = head4 l := by rw [w64 (by omega) (by omega)]; unfold head4; omega
  have hh0 : 0 ≤ head4 l ∧ head4 l ≤ 60 := by unfold head4; omega
  have hbad3 : bt l 0 / 16 ≠ 4 ∨ bt l 0 % 16 < 5 → why4 l = 3 := fun h => by unfold why4; rw [if_neg (by omega), if_pos (by unfold head4; omega)]
  simp (config := {maxSteps := 1000000}) only [↓zvD, zvU, ↓up_apply, ↓hv_apply, ↓upO_some, ↓upO_none, ↓ev_tmp, ↓ev_const, ↓ev_func, ↓ev_global, init, Nat.reduceEqDiff, Nat.reduceAdd, Nat.reduceMul, Nat.reduceSub, ↓reduceIte, Int.reduceEq, Int.reduceNe, Nat.reduceLeDiff, one, Value.cells, Int.reduceLE, Int.reduceLT, Int.reduceToNat, add_mk, reduceCtorEq, List.take_succ_cons, List.take_zero, List.drop_succ_cons, List.drop_zero, Try.underlying22, Try.underlying5, Try.underlying3, Try.underlying4, Try.underlying24, Try.underlying99, Try.underlying9, cells99, cells5, cells3, cells4, cells24, cells22, Try.results49, c0, g0, m0, d0, w1', w2', w3', bn, sz, rd]
  have t2 := two_range l 2
  refine ⟨fun h4 => ⟨fun h5 => bad 3 (hbad3 (.inr h5)) (by omega) _ hm1, fun h5 => ⟨fun h6 => bad 1 (by unfold why4; rw [if_neg (by omega), if_neg (by unfold head4; omega), if_pos h6]) (by omega) _ hm1, fun h6 => ?_⟩⟩, fun h4 => bad 3 (hbad3 (.inl h4)) (by omega) _ hm1⟩
  have hge : 20 ≤ head4 l := by unfold head4; omega
  refine call_ok Try.call83 (ref_two w1 _ l c 2 hA1 (by omega) (by omega) (by omega)) ?_
  rintro _ w2 ⟨rfl, hm2⟩
  have hA2 := hA1.more hm2
  have hb2 := hb1.more hm2
  have hm12 : More w w2 := hm1.trans hm2
  have sz := st_same_eq hb2 (n := 35) rfl (by simpa using netZ_one)
  have rd := hb2.all_eq 35 rfl
  simp only [List.toList_toArray] at sz rd
  simp (config := {maxSteps := 1000000}) only [↓zvD, zvU, ↓up_apply, ↓hv_apply, ↓upO_some, ↓upO_none, ↓ev_tmp, ↓ev_const, ↓ev_func, ↓ev_global, init, Nat.reduceEqDiff, Nat.reduceAdd, Nat.reduceMul, Nat.reduceSub, ↓reduceIte, Int.reduceEq, Int.reduceNe, Nat.reduceLeDiff, one, Value.cells, Int.reduceLE, Int.reduceLT, Int.reduceToNat, add_mk, reduceCtorEq, List.take_succ_cons, List.take_zero, List.drop_succ_cons, List.drop_zero, Try.underlying22, Try.underlying5, Try.underlying3, Try.underlying4, Try.underlying24, Try.underlying99, Try.underlying9, cells99, cells5, cells3, cells4, cells24, cells22, Try.results49, w3', bn, sz, rd]
  have hgood : head4 l ≤ two l 2 → two l 2 ≤ l.length → why4 l = if norm (wsum (l.take (head4 l).toNat)) ≠ 65535 then 4 else 0 := fun a b => by
    unfold why4
    rw [if_neg (by omega), if_neg (by unfold head4; omega), if_neg (by omega), if_neg (by omega)]
  have lt : ∀ h : two l 2 < head4 l ∨ (l.length : Int) < two l 2, why4 l = 5 := fun h => by unfold why4; rw [if_neg (by omega), if_neg (by unfold head4; omega), if_neg (by omega), if_pos h]
  refine ⟨fun h7 => bad 5 (lt (.inl h7)) (by omega) _ hm12, fun h7 => ⟨fun h8 => bad 5 (lt (.inr h8)) (by omega) _ hm12, fun h8 => ⟨by omega, by omega, ?_⟩⟩⟩
  have htk : (l.take (head4 l).toNat).length = (head4 l).toNat := by rw [List.length_take]; omega
  refine call_ok Try.call84 (by have := ref_sum w2 (some a) (l.take (head4 l).toNat) c (Cs.takeB hA2 _) (by omega); rw [htk] at this; exact this) ?_
  rintro _ w3 ⟨rfl, hm3⟩
  have hA3 := hA2.more hm3
  have hb3 := hb2.more hm3
  have hm13 : More w w3 := hm12.trans hm3
  have sz := st_same_eq hb3 (n := 35) rfl (by simpa using netZ_one)
  have rd := hb3.all_eq 35 rfl
  simp only [List.toList_toArray] at sz rd
  simp (config := {maxSteps := 1000000}) only [↓zvD, zvU, ↓up_apply, ↓hv_apply, ↓upO_some, ↓upO_none, ↓ev_tmp, ↓ev_const, ↓ev_func, ↓ev_global, init, Nat.reduceEqDiff, Nat.reduceAdd, Nat.reduceMul, Nat.reduceSub, ↓reduceIte, Int.reduceEq, Int.reduceNe, Nat.reduceLeDiff, one, Value.cells, Int.reduceLE, Int.reduceLT, Int.reduceToNat, add_mk, reduceCtorEq, List.take_succ_cons, List.take_zero, List.drop_succ_cons, List.drop_zero, Try.underlying22, Try.underlying5, Try.underlying3, Try.underlying4, Try.underlying24, Try.underlying99, Try.underlying9, cells99, cells5, cells3, cells4, cells24, cells22, Try.results49, w3', bn, sz, rd]
  refine ⟨fun h9 => ?_, fun h9 => bad 4 (by rw [hgood h7 h8, if_pos h9]) (by omega) _ hm13⟩
  have hwhy : why4 l = 0 := by rw [hgood h7 h8, if_neg (by omega)]
  have hbody : ((l.take (two l 2).toNat).drop (head4 l).toNat).length = (two l 2).toNat - (head4 l).toNat := by rw [List.length_drop, List.length_take]; omega
  have t0 := two_range l 6
  have m6 : (two l 6).tmod 8192 = two l 6 % 8192 := Int.tmod_eq_emod_of_nonneg t0.1
  have c9 := hA3.cellN (i := 9) (by omega)
  have g9 : (9 : Int) < l.length := by omega
  have g2 : 0 ≤ two l 2 := by omega
  have g1 : 0 ≤ head4 l := hh0.1
  have hc2 : (two l 2).toNat ≤ c := by omega
  have hc3 : (head4 l).toNat ≤ (two l 2).toNat := by omega
  refine draw_seen 14 [[], [0], [0, 1], [], [], [4], [], [3, 4, 5, 6], [], [8], [8, 9], [8, 9, 10], [0, 1, 2, 3, 4, 5, 6, 7, 8, 9, 10, 11], [], [0, 1, 2, 3, 4, 5, 6, 7, 8, 9, 10, 11, 12, 13]] (RV.look [
    (9, fun v _ => v = .int .i64 (two l 6)),
    (13, fun v w' => ∃ p, v = .pointer (some ⟨p, 0, none⟩) ∧ w3.heap.size ≤ p ∧ Blk w' p 99 netZ)]) mixed (by kernel_rfl) (by kernel_rfl) (look_keeps _ ?_) ?_
  · intro x hx
    simp only [List.mem_cons, List.not_mem_nil, or_false] at hx
    rcases hx with rfl | rfl
    · rintro v a b hab rfl
      rfl
    · rintro v a b hab ⟨p, rfl, hp, hb⟩
      exact ⟨p, rfl, hp, hb.more hab⟩
  simp (config := {maxSteps := 1000000}) only [↓zvD, zvU, ↓zqD, ↓up_apply, ↓hv_apply, ↓upO_some, ↓upO_none, ↓ev_tmp, ↓ev_const, ↓ev_func, ↓ev_global, init, Nat.reduceEqDiff, Nat.reduceAdd, Nat.reduceMul, Nat.reduceSub, ↓reduceIte, Int.reduceEq, Int.reduceNe, Nat.reduceLeDiff, one, Value.cells, Int.reduceLE, Int.reduceLT, Int.reduceToNat, add_mk, reduceCtorEq, List.take_succ_cons, List.take_zero, List.drop_succ_cons, List.drop_zero, Try.underlying22, Try.underlying5, Try.underlying3, Try.underlying4, Try.underlying24, Try.underlying99, Try.underlying9, cells99, cells5, cells3, cells4, cells24, cells22, Try.results49, w3', c9, g9, g1, g2, hc2, hc3, m6]
  refine ⟨fun w4 hm4 => call_ok Try.call83 (ref_two w4 _ l c 6 (hA3.more hm4) (by omega) (by omega) (by omega)) ?_, ?_⟩
  · rintro _ w6 ⟨rfl, hm6⟩
    simp (config := {maxSteps := 1000000}) only [↓zvD, zvU, ↓zqD, ↓up_apply, ↓hv_apply, ↓upO_some, ↓upO_none, ↓ev_tmp, ↓ev_const, ↓ev_func, ↓ev_global, init, Nat.reduceEqDiff, Nat.reduceAdd, Nat.reduceMul, Nat.reduceSub, ↓reduceIte, Int.reduceEq, Int.reduceNe, Nat.reduceLeDiff, one, Value.cells, Int.reduceLE, Int.reduceLT, Int.reduceToNat, add_mk, reduceCtorEq]
    exact hm6
  rintro _ ⟨w4, hm4, rfl⟩
  have hlaid : laid (fun i => ((#[{ name := "Proto", type := 5, offset := 0, embedded := false, tag := "", pkgPath := "", byteOffset := 0 }, { name := "Src", type := 24, offset := 1, embedded := false, tag := "", pkgPath := "", byteOffset := 1 }, { name := "Dst", type := 24, offset := 17, embedded := false, tag := "", pkgPath := "", byteOffset := 17 }, { name := "Body", type := 22, offset := 33, embedded := false, tag := "", pkgPath := "", byteOffset := 40 }, { name := "First", type := 4, offset := 34, embedded := false, tag := "", pkgPath := "", byteOffset := 64 }] : Array Field)[i]?).map fun f => (f.offset, Try.prog.cellsOf f.type)) (Value.agg netZ.toArray).cells.toList [(0, Value.int .u8 (bt l 9)), (3, .slice (adv (some a) c (head4 l).toNat 1) ((two l 2).toNat - (head4 l).toNat) (c - (head4 l).toNat)), (4, .bool (decide (two l 6 % 8192 = 0)))] =
      some (part4 l (adv (some a) c (head4 l).toNat 1) (c - (head4 l).toNat) 0) := by
    unfold part4
    simp only [laid, List.getElem?_toArray, List.getElem?_cons_zero, List.getElem?_cons_succ, Option.map_some, Option.bind_some, cells5, cells22, cells4, hbody]
    rfl
  have bd := build_eq (P := Try.prog) Try.underlying99 zerNetR netFields hlaid w
  simp (config := {maxSteps := 1000000}) only [↓zvD, zvU, ↓zqD, ↓up_apply, ↓hv_apply, ↓upO_some, ↓upO_none, ↓ev_tmp, ↓ev_const, ↓ev_func, ↓ev_global, init, Nat.reduceEqDiff, Nat.reduceAdd, Nat.reduceMul, Nat.reduceSub, ↓reduceIte, Int.reduceEq, Int.reduceNe, Nat.reduceLeDiff, one, Value.cells, Int.reduceLE, Int.reduceLT, Int.reduceToNat, add_mk, reduceCtorEq, List.take_succ_cons, List.take_zero, List.drop_succ_cons, List.drop_zero, Try.underlying22, Try.underlying5, Try.underlying3, Try.underlying4, Try.underlying24, Try.underlying99, Try.underlying9, cells99, cells5, cells3, cells4, cells24, cells22, Try.results49, w3', c9, g9, g1, g2, hc2, hc3, m6, bd, zerNetR]
  refine ⟨fun w6 hm6 => ⟨more_alloc .., _, rfl, hm6.size, Blk.new ..⟩, ?_⟩
  rintro _ ⟨w6, hm6, p, rfl, hp, hb6⟩
  simp (config := {maxSteps := 1000000}) only [↓zvD, zvU, ↓zqD, ↓up_apply, ↓hv_apply, ↓upO_some, ↓upO_none, ↓ev_tmp, ↓ev_const, ↓ev_func, ↓ev_global, init, Nat.reduceEqDiff, Nat.reduceAdd, Nat.reduceMul, Nat.reduceSub, ↓reduceIte, Int.reduceEq, Int.reduceNe, Nat.reduceLeDiff, one, Value.cells, Int.reduceLE, Int.reduceLT, Int.reduceToNat, add_mk, reduceCtorEq, List.take_succ_cons, List.take_zero, List.drop_succ_cons, List.drop_zero, Try.underlying22, Try.underlying5, Try.underlying3, Try.underlying4, Try.underlying24, Try.underlying99, Try.underlying9, cells99, cells5, cells3, cells4, cells24, cells22, Try.results49]
  rintro w7 hm7 ⟨p2, e2, hp7, hb7⟩
  cases e2
  have hm17 : More w w7 := hm13.trans hm7
  have s1 : w.heap.size < p := Nat.lt_of_lt_of_le hb3.lt hp
  refine st_all hb7 rfl rfl ?_ fun w8 g3 g4 => ?_
  · intro u hu
    simp only [part4, List.mem_cons, List.mem_append, List.not_mem_nil, or_false] at hu
    rcases hu with rfl | hu | hu | rfl | rfl
    · rfl
    · exact byteV_one _ u hu
    · exact byteV_one _ u hu
    · rfl
    · rfl
  have hb8 := g3.blk (hb3.more hm7) (by omega)
  have hm18 : More w w8 := g3.below hm17 (by omega)
  refine loop_p [7, 66, 67, 68, 69, 70, 71, 72, 73, 74, 75, 76, 77, 78, 79, 80, 81, 82, 83, 84, 85] (fun e w' => CopyJ l (adv (some a) c (head4 l).toNat 1) (c - (head4 l).toNat) w p (e 66) w') (fun e _ => (4 - numOf (e 66)).toNat) ?_ ?_
  · exact ⟨0, by simp only [hv_apply, up_apply, upO_some, upO_none, init, List.mem_cons, true_or, or_true, if_true, if_false, ↓reduceIte, Nat.reduceEqDiff, false_or, or_false, List.not_mem_nil, List.getElem?_cons_zero, List.getElem?_cons_succ, Option.getD_some]; rfl, by omega, g4, hb8, hm18⟩
  rintro v w9 ⟨k, h66, hk, hp9, hb9, hm9⟩
  simp only [hv_apply, up_apply, upO_some, upO_none, init, List.mem_cons, true_or, or_true, if_true, if_false, ↓reduceIte, Nat.reduceEqDiff, false_or, or_false, List.not_mem_nil, List.getElem?_cons_zero, List.getElem?_cons_succ, Option.getD_some] at h66
  have hA9 := hA.more hm9
  have hab : a.block < w.heap.size + 1 := Nat.lt_succ_of_lt (hA.blk_lt (by omega))
  have rd9 := hb9.all_eq 35 rfl
  have rp9 := hp9.all_eq 35 (part4_len _ _ _ _ hk (by omega))
  try simp only [List.toList_toArray] at rd9
  simp (config := {maxSteps := 1000000}) only [↓zvD, zvU, ↓up_apply, ↓hv_apply, ↓upO_some, ↓upO_none, ↓ev_tmp, ↓ev_const, ↓ev_func, ↓ev_global, init, Nat.reduceEqDiff, Nat.reduceAdd, Nat.reduceMul, Nat.reduceSub, ↓reduceIte, Int.reduceEq, Int.reduceNe, Nat.reduceLeDiff, one, Value.cells, Int.reduceLE, Int.reduceLT, Int.reduceToNat, add_mk, reduceCtorEq, List.take_succ_cons, List.take_zero, List.drop_succ_cons, List.drop_zero, Try.underlying22, Try.underlying5, Try.underlying3, Try.underlying4, Try.underlying24, Try.underlying99, Try.underlying9, cells99, cells5, cells3, cells4, cells24, cells22, Try.results49, h66]
  refine ⟨fun h10 => ?_, fun h10 => ?_⟩
  · have k1 : IntKind.i64.wrap (12 + (k : Int)) = ((12 + k : Nat) : Int) := w64 (by omega) (by omega)
    have k2 : IntKind.i64.wrap (16 + (k : Int)) = ((16 + k : Nat) : Int) := w64 (by omega) (by omega)
    have k3 : IntKind.i64.wrap ((k : Int) + 1) = ((k + 1 : Nat) : Int) := w64 (by omega) (by omega)
    have c1 := hA9.cellN (i := 12 + k) (by omega)
    have c2 := hA9.cellN (i := 16 + k) (by omega)
    have g5 : ((12 + k : Nat) : Int) < l.length := by omega
    have g6 : ((16 + k : Nat) : Int) < l.length := by omega
    have g7 : (k : Int) < 16 := by omega
    refine draw_put (w.heap.size + 1) p 99 (1 + k) (.int .u8 (bt l (12 + k))) 14 16 [[], [], [], [], [3], [2, 3, 4], [2, 3, 4, 5], [], [], [8], [7, 8, 9], [7, 8, 9, 10], [], [0, 2, 3, 4, 5, 6, 12], [0, 2, 3, 4, 5, 6, 12, 13], [], [0, 1, 2, 3, 4, 5, 6, 7, 8, 9, 10, 11, 12, 13, 14, 15], [0, 1, 2, 3, 4, 5, 6, 7, 8, 9, 10, 11, 12, 13, 14, 15, 16]] mixed (by kernel_rfl) (by kernel_rfl) ?_
    simp (config := {maxSteps := 1000000}) only [↓zvD, zvU, ↓zqD, ↓up_apply, ↓hv_apply, ↓upO_some, ↓upO_none, ↓ev_tmp, ↓ev_const, ↓ev_func, ↓ev_global, init, Nat.reduceEqDiff, Nat.reduceAdd, Nat.reduceMul, Nat.reduceSub, ↓reduceIte, Int.reduceEq, Int.reduceNe, Nat.reduceLeDiff, one, Value.cells, Int.reduceLE, Int.reduceLT, Int.reduceToNat, add_mk, reduceCtorEq, List.take_succ_cons, List.take_zero, List.drop_succ_cons, List.drop_zero, Try.underlying22, Try.underlying5, Try.underlying3, Try.underlying4, Try.underlying24, Try.underlying99, Try.underlying9, cells99, cells5, cells3, cells4, cells24, cells22, Try.results49, h66, k1, k2, k3, c1, c2, g5, g6, g7, add_block, hab, Int.toNat_natCast, Int.natCast_nonneg]
    have hplen := part4_len l (adv (some a) c (head4 l).toNat 1) (c - (head4 l).toNat) k hk (by omega)
    refine ⟨fun w10 hw10 => ?_, ?_⟩
    · obtain ⟨cs, h11, h12⟩ := hw10.blk hp9
      exact Put.st h11 (by omega) rfl (by omega) fun w' h1 h2 h3 => ⟨h2, h3⟩
    rintro v10 ⟨w10, hw10, hd10⟩
    rw [stop1]
    simp (config := {maxSteps := 1000000}) only [↓zvD, zvU, ↓zqD, ↓up_apply, ↓hv_apply, ↓upO_some, ↓upO_none, ↓ev_tmp, ↓ev_const, ↓ev_func, ↓ev_global, init, Nat.reduceEqDiff, Nat.reduceAdd, Nat.reduceMul, Nat.reduceSub, ↓reduceIte, Int.reduceEq, Int.reduceNe, Nat.reduceLeDiff, one, Value.cells, Int.reduceLE, Int.reduceLT, Int.reduceToNat, add_mk, reduceCtorEq, List.take_succ_cons, List.take_zero, List.drop_succ_cons, List.drop_zero, Try.underlying22, Try.underlying5, Try.underlying3, Try.underlying4, Try.underlying24, Try.underlying99, Try.underlying9, cells99, cells5, cells3, cells4, cells24, cells22, Try.results49, h66, k1, k2, k3, c1, c2, g5, g6, g7, add_block, hab, Int.toNat_natCast, Int.natCast_nonneg]
    intro w11 hw11 hd11
    have hp11 := hw11.done hp9 hd11
    have hb11 := hb9.below hw11.1 (by omega)
    refine st_cell hp11 (by simp [hplen]; omega) rfl fun w12 k4 k5 => ⟨⟨?_, k + 1, rfl, by omega, ?_, ?_, ?_⟩, ?_⟩
    · repeat (first | exact Same.hv _ _ _ | refine Same.up (by simp) ?_)
    · rw [part4_step _ _ _ _ (by omega) (by omega)] at k5
      exact k5
    · exact k4.blk hb11 (by omega)
    · exact k4.below (Below.trans hm9 (hw11.1.mono (by omega))) (by omega)
    · simp only [numOf]; omega
  · have hk4 : k = 4 := by omega
    subst hk4
    simp (config := {maxSteps := 1000000}) only [↓zvD, zvU, ↓up_apply, ↓hv_apply, ↓upO_some, ↓upO_none, ↓ev_tmp, ↓ev_const, ↓ev_func, ↓ev_global, init, Nat.reduceEqDiff, Nat.reduceAdd, Nat.reduceMul, Nat.reduceSub, ↓reduceIte, Int.reduceEq, Int.reduceNe, Nat.reduceLeDiff, one, Value.cells, Int.reduceLE, Int.reduceLT, Int.reduceToNat, add_mk, reduceCtorEq, List.take_succ_cons, List.take_zero, List.drop_succ_cons, List.drop_zero, Try.underlying22, Try.underlying5, Try.underlying3, Try.underlying4, Try.underlying24, Try.underlying99, Try.underlying9, cells99, cells5, cells3, cells4, cells24, cells22, Try.results49, rp9, h66]
    refine st_all hb9 (by simpa using part4_len l (adv (some a) c (head4 l).toNat 1) (c - (head4 l).toNat) 4 (by omega) (by omega)) rfl ?_ fun w10 k1 k2 => ?_
    · intro u hu
      simp only [part4, List.mem_cons, List.mem_append, List.not_mem_nil, or_false] at hu
      rcases hu with rfl | hu | hu | rfl | rfl
      · rfl
      · exact byteV_one _ u hu
      · exact byteV_one _ u hu
      · rfl
      · rfl
    have rd10 := k2.all_eq 35 (by simpa using part4_len l (adv (some a) c (head4 l).toNat 1) (c - (head4 l).toNat) 4 (by omega) (by omega))
    simp (config := {maxSteps := 1000000}) only [↓zvD, zvU, ↓up_apply, ↓hv_apply, ↓upO_some, ↓upO_none, ↓ev_tmp, ↓ev_const, ↓ev_func, ↓ev_global, init, Nat.reduceEqDiff, Nat.reduceAdd, Nat.reduceMul, Nat.reduceSub, ↓reduceIte, Int.reduceEq, Int.reduceNe, Nat.reduceLeDiff, one, Value.cells, Int.reduceLE, Int.reduceLT, Int.reduceToNat, add_mk, reduceCtorEq, List.take_succ_cons, List.take_zero, List.drop_succ_cons, List.drop_zero, Try.underlying22, Try.underlying5, Try.underlying3, Try.underlying4, Try.underlying24, Try.underlying99, Try.underlying9, cells99, cells5, cells3, cells4, cells24, cells22, Try.results49, rd10]
    have hp4 : parse4 l = net4 l := by unfold parse4; rw [if_pos hwhy]
    have hm10 : More w w10 := k1.below hm9 (Nat.le_refl _)
    rw [hp4, hwhy]
    exact ⟨_, _, rfl, ⟨Cs.advB (Cs.takeB (hA.more hm10) _) (by rw [List.length_take]; omega), fun z hz => ⟨a, rfl, adv_blk z hz⟩⟩, hm10⟩
end Go.Proofs.Ytgbhgjghlnknjaa
