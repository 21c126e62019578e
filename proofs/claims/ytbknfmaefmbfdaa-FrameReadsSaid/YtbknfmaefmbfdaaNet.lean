/-
  Layer 9: inet.Parse.
-/
import Derived.Test.YtbknfmaefmbfdaaInet
namespace Go.Proofs.Ytbknfmaefmbfdaa
open Go Go.RowKit Go.Proofs.RV
set_option linter.unusedSimpArgs false
set_option linter.unusedVariables false

def head4 (l : List UInt8) : Int := bt l 0 % 16 * 4
def why4 (l : List UInt8) : Int :=
  if (l.length : Int) < 20 then 1 else
  if bt l 0 / 16 ≠ 4 ∨ head4 l < 20 then 3 else
  if (l.length : Int) < head4 l then 1 else
  if two l 2 < head4 l ∨ (l.length : Int) < two l 2 then 5 else
  if norm (wsum (l.take (head4 l).toNat)) ≠ 65535 then 4 else 0
def net4 (l : List UInt8) : NetM :=
  { proto := bt l 9, src := (l.drop 12).take 4 ++ noBytes 12, dst := (l.drop 16).take 4 ++ noBytes 12, body := (l.take (two l 2).toNat).drop (head4 l).toNat, first := decide (two l 6 % 8192 = 0) }
def parse4 (l : List UInt8) : NetM := if why4 l = 0 then net4 l else netNone
set_option maxRecDepth 10000 in
set_option maxHeartbeats 2000000 in
theorem inet_parse (w : World) (A : Option Addr) (l : List UInt8) (c : Nat) (hA : Bs w A l) (hc : l.length ≤ c) (hl : l.length ≤ 1000000) :
    Ret Try.prog 62 #[.slice A l.length c] w fun v w' => ∃ A' c', v = .tuple #[.agg ((parse4 l).cells A' c').toArray, .int .i64 (why4 l)] ∧ Own w' w.heap.size 5 1 A' (parse4 l).body.length c' ((parse4 l).body.map byteV) ∧ More w w' := by
  have bad : ∀ r, why4 l = r → r ≠ 0 → ∀ w', More w w' → ∃ A' c', Value.tuple #[.agg netZ.toArray, .int .i64 r] = .tuple #[.agg ((parse4 l).cells A' c').toArray, .int .i64 (why4 l)] ∧ Own w' w.heap.size 5 1 A' (parse4 l).body.length c' ((parse4 l).body.map byteV) ∧ More w w' := by
    intro r hr hr0 w' hm
    have : parse4 l = netNone := by unfold parse4; rw [if_neg (by rw [hr]; exact hr0)]
    rw [this, hr]
    exact ⟨none, 0, rfl, Own.nil _ _ _ _, hm⟩
  refine ret_of Try.func62 rfl (by kernel_rfl) (by show 1 ≤ 78; omega) ?_
  have hm1 := more_alloc w (.cells netZ.toArray 115)
  have hb1 := Blk.new w 115 netZ.toArray
  simp only [↓rvD, miU, ↓up_apply, ↓hv_apply, ↓upO_some, ↓upO_none, ↓ev_tmp, ↓ev_const, ↓ev_func, ↓ev_global, init, Nat.reduceEqDiff, Nat.reduceAdd, Nat.reduceMul, Nat.reduceSub, ↓reduceIte, Int.reduceEq, Int.reduceNe, Nat.reduceLeDiff, one, Value.cells, Int.reduceLE, Int.reduceLT, Int.reduceToNat, add_mk, reduceCtorEq,  List.take_succ_cons, List.take_zero, List.drop_succ_cons, List.drop_zero, Try.underlying31, Try.underlying5, Try.underlying3, Try.underlying115, Try.underlying68, Try.underlying4, cells5, cells3, cells4, cells115, cells68, cells31, Try.results62, zerNet]
  generalize w.alloc (.cells netZ.toArray 115) = w1 at hm1 hb1 ⊢
  refine ⟨fun h1 => ?_, fun h1 => ?_⟩
  · refine build_nil Try.underlying115 zerNet netFields ?_
    simp only [↓rvD, miU, ↓up_apply, ↓hv_apply, ↓upO_some, ↓upO_none, ↓ev_tmp, ↓ev_const, ↓ev_func, ↓ev_global, init, Nat.reduceEqDiff, Nat.reduceAdd, Nat.reduceMul, Nat.reduceSub, ↓reduceIte, Int.reduceEq, Int.reduceNe, Nat.reduceLeDiff, one, Value.cells, Int.reduceLE, Int.reduceLT, Int.reduceToNat, add_mk, reduceCtorEq,  List.take_succ_cons, List.take_zero, List.drop_succ_cons, List.drop_zero, Try.underlying31, Try.underlying5, Try.underlying3, Try.underlying115, Try.underlying68, Try.underlying4, cells5, cells3, cells4, cells115, cells68, cells31, Try.results62]
    refine st_all hb1 rfl rfl (by simpa using netZ_one) fun w7 g1 g2 => ?_
    refine ld_all g2 rfl ?_
    simp only [↓rvD, miU, ↓up_apply, ↓hv_apply, ↓upO_some, ↓upO_none, ↓ev_tmp, ↓ev_const, ↓ev_func, ↓ev_global, init, Nat.reduceEqDiff, Nat.reduceAdd, Nat.reduceMul, Nat.reduceSub, ↓reduceIte, Int.reduceEq, Int.reduceNe, Nat.reduceLeDiff, one, Value.cells, Int.reduceLE, Int.reduceLT, Int.reduceToNat, add_mk, reduceCtorEq,  List.take_succ_cons, List.take_zero, List.drop_succ_cons, List.drop_zero, Try.underlying31, Try.underlying5, Try.underlying3, Try.underlying115, Try.underlying68, Try.underlying4, cells5, cells3, cells4, cells115, cells68, cells31, Try.results62]
    exact bad 1 (by unfold why4; rw [if_pos h1]) (by omega) _ (g1.below hm1 (Nat.le_refl _))
  have hA1 := hA.more hm1
  refine draw_quiet mixed (by kernel_rfl) ?_
  simp only [↓rvD, ↓rqD, miU, ↓up_apply, ↓hv_apply, ↓upO_some, ↓upO_none, ↓ev_tmp, ↓ev_const, ↓ev_func, ↓ev_global, init, Nat.reduceEqDiff, Nat.reduceAdd, Nat.reduceMul, Nat.reduceSub, ↓reduceIte, Int.reduceEq, Int.reduceNe, Nat.reduceLeDiff, one, Value.cells, Int.reduceLE, Int.reduceLT, Int.reduceToNat, add_mk, reduceCtorEq,  List.take_succ_cons, List.take_zero, List.drop_succ_cons, List.drop_zero, Try.underlying31, Try.underlying5, Try.underlying3, Try.underlying115, Try.underlying68, Try.underlying4, cells5, cells3, cells4, cells115, cells68, cells31, Try.results62]
  have b0 := bt_nonneg l 0
  have b1 := bt_lt l 0
  have hh : IntKind.i64.wrap (IntKind.i64.wrap (bits .and .u8 (bt l 0) 15) * 4) = head4 l := by
    rw [and15 b0 b1, w64 (x := bt l 0 % 16) (by omega) (by omega), w64 (by omega) (by omega)]
    rfl
  have hh0 : 0 ≤ head4 l ∧ head4 l ≤ 60 := by unfold head4; omega
  have hbad3 : bt l 0 / 16 ≠ 4 ∨ head4 l < 20 → why4 l = 3 := fun h => by unfold why4; rw [if_neg (by omega), if_pos h]
  refine ⟨by omega, hA1.idxN (i := 0) (by omega) fun _ => ?_⟩
  refine call_q (v := .int .i64 (two l 2)) Try.call82 (fun w2 hb => inet_two w2 A l c 2 (hA1.more hb) (by omega) (by omega) (by omega)) ?_
  simp only [↓rvD, ↓rqD, miU, ↓up_apply, ↓hv_apply, ↓upO_some, ↓upO_none, ↓ev_tmp, ↓ev_const, ↓ev_func, ↓ev_global, init, Nat.reduceEqDiff, Nat.reduceAdd, Nat.reduceMul, Nat.reduceSub, ↓reduceIte, Int.reduceEq, Int.reduceNe, Nat.reduceLeDiff, one, Value.cells, Int.reduceLE, Int.reduceLT, Int.reduceToNat, add_mk, reduceCtorEq,  List.take_succ_cons, List.take_zero, List.drop_succ_cons, List.drop_zero, Try.underlying31, Try.underlying5, Try.underlying3, Try.underlying115, Try.underlying68, Try.underlying4, cells5, cells3, cells4, cells115, cells68, cells31, Try.results62]
  intro w2 hm2
  have hA2 := hA1.more hm2
  have hb2 := hb1.more hm2
  have hm12 : More w w2 := hm1.trans hm2
  refine ⟨by omega, hA2.idxN (i := 0) (by omega) fun _ => ?_⟩
  simp only [hh, shr4]
  refine ⟨fun h4 => ⟨fun h5 => ?_, fun h5 => ⟨fun h6 => ?_, fun h6 => ?_⟩⟩, fun h4 => ?_⟩
  · refine build_nil Try.underlying115 zerNet netFields ?_
    simp only [↓rvD, miU, ↓up_apply, ↓hv_apply, ↓upO_some, ↓upO_none, ↓ev_tmp, ↓ev_const, ↓ev_func, ↓ev_global, init, Nat.reduceEqDiff, Nat.reduceAdd, Nat.reduceMul, Nat.reduceSub, ↓reduceIte, Int.reduceEq, Int.reduceNe, Nat.reduceLeDiff, one, Value.cells, Int.reduceLE, Int.reduceLT, Int.reduceToNat, add_mk, reduceCtorEq,  List.take_succ_cons, List.take_zero, List.drop_succ_cons, List.drop_zero, Try.underlying31, Try.underlying5, Try.underlying3, Try.underlying115, Try.underlying68, Try.underlying4, cells5, cells3, cells4, cells115, cells68, cells31, Try.results62]
    refine st_all hb2 rfl rfl (by simpa using netZ_one) fun w7 g1 g2 => ?_
    refine ld_all g2 rfl ?_
    simp only [↓rvD, miU, ↓up_apply, ↓hv_apply, ↓upO_some, ↓upO_none, ↓ev_tmp, ↓ev_const, ↓ev_func, ↓ev_global, init, Nat.reduceEqDiff, Nat.reduceAdd, Nat.reduceMul, Nat.reduceSub, ↓reduceIte, Int.reduceEq, Int.reduceNe, Nat.reduceLeDiff, one, Value.cells, Int.reduceLE, Int.reduceLT, Int.reduceToNat, add_mk, reduceCtorEq,  List.take_succ_cons, List.take_zero, List.drop_succ_cons, List.drop_zero, Try.underlying31, Try.underlying5, Try.underlying3, Try.underlying115, Try.underlying68, Try.underlying4, cells5, cells3, cells4, cells115, cells68, cells31, Try.results62]
    exact bad 3 (hbad3 (.inr h5)) (by omega) _ (g1.below hm12 (Nat.le_refl _))
  · refine build_nil Try.underlying115 zerNet netFields ?_
    simp only [↓rvD, miU, ↓up_apply, ↓hv_apply, ↓upO_some, ↓upO_none, ↓ev_tmp, ↓ev_const, ↓ev_func, ↓ev_global, init, Nat.reduceEqDiff, Nat.reduceAdd, Nat.reduceMul, Nat.reduceSub, ↓reduceIte, Int.reduceEq, Int.reduceNe, Nat.reduceLeDiff, one, Value.cells, Int.reduceLE, Int.reduceLT, Int.reduceToNat, add_mk, reduceCtorEq,  List.take_succ_cons, List.take_zero, List.drop_succ_cons, List.drop_zero, Try.underlying31, Try.underlying5, Try.underlying3, Try.underlying115, Try.underlying68, Try.underlying4, cells5, cells3, cells4, cells115, cells68, cells31, Try.results62]
    refine st_all hb2 rfl rfl (by simpa using netZ_one) fun w7 g1 g2 => ?_
    refine ld_all g2 rfl ?_
    simp only [↓rvD, miU, ↓up_apply, ↓hv_apply, ↓upO_some, ↓upO_none, ↓ev_tmp, ↓ev_const, ↓ev_func, ↓ev_global, init, Nat.reduceEqDiff, Nat.reduceAdd, Nat.reduceMul, Nat.reduceSub, ↓reduceIte, Int.reduceEq, Int.reduceNe, Nat.reduceLeDiff, one, Value.cells, Int.reduceLE, Int.reduceLT, Int.reduceToNat, add_mk, reduceCtorEq,  List.take_succ_cons, List.take_zero, List.drop_succ_cons, List.drop_zero, Try.underlying31, Try.underlying5, Try.underlying3, Try.underlying115, Try.underlying68, Try.underlying4, cells5, cells3, cells4, cells115, cells68, cells31, Try.results62]
    exact bad 1 (by unfold why4; rw [if_neg (by omega), if_neg (by omega), if_pos h6]) (by omega) _ (g1.below hm12 (Nat.le_refl _))
  rotate_left
  · refine build_nil Try.underlying115 zerNet netFields ?_
    simp only [↓rvD, miU, ↓up_apply, ↓hv_apply, ↓upO_some, ↓upO_none, ↓ev_tmp, ↓ev_const, ↓ev_func, ↓ev_global, init, Nat.reduceEqDiff, Nat.reduceAdd, Nat.reduceMul, Nat.reduceSub, ↓reduceIte, Int.reduceEq, Int.reduceNe, Nat.reduceLeDiff, one, Value.cells, Int.reduceLE, Int.reduceLT, Int.reduceToNat, add_mk, reduceCtorEq,  List.take_succ_cons, List.take_zero, List.drop_succ_cons, List.drop_zero, Try.underlying31, Try.underlying5, Try.underlying3, Try.underlying115, Try.underlying68, Try.underlying4, cells5, cells3, cells4, cells115, cells68, cells31, Try.results62]
    refine st_all hb2 rfl rfl (by simpa using netZ_one) fun w7 g1 g2 => ?_
    refine ld_all g2 rfl ?_
    simp only [↓rvD, miU, ↓up_apply, ↓hv_apply, ↓upO_some, ↓upO_none, ↓ev_tmp, ↓ev_const, ↓ev_func, ↓ev_global, init, Nat.reduceEqDiff, Nat.reduceAdd, Nat.reduceMul, Nat.reduceSub, ↓reduceIte, Int.reduceEq, Int.reduceNe, Nat.reduceLeDiff, one, Value.cells, Int.reduceLE, Int.reduceLT, Int.reduceToNat, add_mk, reduceCtorEq,  List.take_succ_cons, List.take_zero, List.drop_succ_cons, List.drop_zero, Try.underlying31, Try.underlying5, Try.underlying3, Try.underlying115, Try.underlying68, Try.underlying4, cells5, cells3, cells4, cells115, cells68, cells31, Try.results62]
    exact bad 3 (hbad3 (.inl h4)) (by omega) _ (g1.below hm12 (Nat.le_refl _))
  have hgood : head4 l ≤ two l 2 → two l 2 ≤ l.length → why4 l = if norm (wsum (l.take (head4 l).toNat)) ≠ 65535 then 4 else 0 := fun a b => by
    unfold why4
    rw [if_neg (by omega), if_neg (by omega), if_neg (by omega), if_neg (by omega)]
  refine ⟨fun h7 => ⟨fun h8 => ?_, fun h8 => ⟨by omega, by omega, ?_⟩⟩, fun h7 => ?_⟩
  · refine build_nil Try.underlying115 zerNet netFields ?_
    simp only [↓rvD, miU, ↓up_apply, ↓hv_apply, ↓upO_some, ↓upO_none, ↓ev_tmp, ↓ev_const, ↓ev_func, ↓ev_global, init, Nat.reduceEqDiff, Nat.reduceAdd, Nat.reduceMul, Nat.reduceSub, ↓reduceIte, Int.reduceEq, Int.reduceNe, Nat.reduceLeDiff, one, Value.cells, Int.reduceLE, Int.reduceLT, Int.reduceToNat, add_mk, reduceCtorEq,  List.take_succ_cons, List.take_zero, List.drop_succ_cons, List.drop_zero, Try.underlying31, Try.underlying5, Try.underlying3, Try.underlying115, Try.underlying68, Try.underlying4, cells5, cells3, cells4, cells115, cells68, cells31, Try.results62]
    refine st_all hb2 rfl rfl (by simpa using netZ_one) fun w7 g1 g2 => ?_
    refine ld_all g2 rfl ?_
    simp only [↓rvD, miU, ↓up_apply, ↓hv_apply, ↓upO_some, ↓upO_none, ↓ev_tmp, ↓ev_const, ↓ev_func, ↓ev_global, init, Nat.reduceEqDiff, Nat.reduceAdd, Nat.reduceMul, Nat.reduceSub, ↓reduceIte, Int.reduceEq, Int.reduceNe, Nat.reduceLeDiff, one, Value.cells, Int.reduceLE, Int.reduceLT, Int.reduceToNat, add_mk, reduceCtorEq,  List.take_succ_cons, List.take_zero, List.drop_succ_cons, List.drop_zero, Try.underlying31, Try.underlying5, Try.underlying3, Try.underlying115, Try.underlying68, Try.underlying4, cells5, cells3, cells4, cells115, cells68, cells31, Try.results62]
    exact bad 5 (by unfold why4; rw [if_neg (by omega), if_neg (by omega), if_neg (by omega), if_pos (.inr h8)]) (by omega) _ (g1.below hm12 (Nat.le_refl _))
  rotate_left
  · refine build_nil Try.underlying115 zerNet netFields ?_
    simp only [↓rvD, miU, ↓up_apply, ↓hv_apply, ↓upO_some, ↓upO_none, ↓ev_tmp, ↓ev_const, ↓ev_func, ↓ev_global, init, Nat.reduceEqDiff, Nat.reduceAdd, Nat.reduceMul, Nat.reduceSub, ↓reduceIte, Int.reduceEq, Int.reduceNe, Nat.reduceLeDiff, one, Value.cells, Int.reduceLE, Int.reduceLT, Int.reduceToNat, add_mk, reduceCtorEq,  List.take_succ_cons, List.take_zero, List.drop_succ_cons, List.drop_zero, Try.underlying31, Try.underlying5, Try.underlying3, Try.underlying115, Try.underlying68, Try.underlying4, cells5, cells3, cells4, cells115, cells68, cells31, Try.results62]
    refine st_all hb2 rfl rfl (by simpa using netZ_one) fun w7 g1 g2 => ?_
    refine ld_all g2 rfl ?_
    simp only [↓rvD, miU, ↓up_apply, ↓hv_apply, ↓upO_some, ↓upO_none, ↓ev_tmp, ↓ev_const, ↓ev_func, ↓ev_global, init, Nat.reduceEqDiff, Nat.reduceAdd, Nat.reduceMul, Nat.reduceSub, ↓reduceIte, Int.reduceEq, Int.reduceNe, Nat.reduceLeDiff, one, Value.cells, Int.reduceLE, Int.reduceLT, Int.reduceToNat, add_mk, reduceCtorEq,  List.take_succ_cons, List.take_zero, List.drop_succ_cons, List.drop_zero, Try.underlying31, Try.underlying5, Try.underlying3, Try.underlying115, Try.underlying68, Try.underlying4, cells5, cells3, cells4, cells115, cells68, cells31, Try.results62]
    exact bad 5 (by unfold why4; rw [if_neg (by omega), if_neg (by omega), if_neg (by omega), if_pos (.inl h7)]) (by omega) _ (g1.below hm12 (Nat.le_refl _))
  have htk : (l.take (head4 l).toNat).length = (head4 l).toNat := by rw [List.length_take]; omega
  rw [adv_zero]
  refine call_ok Try.call83 (by have := inet_sum w2 A (l.take (head4 l).toNat) c (Cs.takeB hA2 _) (by omega) (by omega); rw [htk] at this; exact this) ?_
  rintro _ w3 ⟨rfl, hm3⟩
  have hA3 := hA2.more hm3
  have hb3 := hb2.more hm3
  have hm13 : More w w3 := hm12.trans hm3
  simp only [↓rvD, miU, ↓up_apply, ↓hv_apply, ↓upO_some, ↓upO_none, ↓ev_tmp, ↓ev_const, ↓ev_func, ↓ev_global, init, Nat.reduceEqDiff, Nat.reduceAdd, Nat.reduceMul, Nat.reduceSub, ↓reduceIte, Int.reduceEq, Int.reduceNe, Nat.reduceLeDiff, one, Value.cells, Int.reduceLE, Int.reduceLT, Int.reduceToNat, add_mk, reduceCtorEq,  List.take_succ_cons, List.take_zero, List.drop_succ_cons, List.drop_zero, Try.underlying31, Try.underlying5, Try.underlying3, Try.underlying115, Try.underlying68, Try.underlying4, cells5, cells3, cells4, cells115, cells68, cells31, Try.results62]
  refine ⟨fun h9 => ?_, fun h9 => ?_⟩
  · refine build_nil Try.underlying115 zerNet netFields ?_
    simp only [↓rvD, miU, ↓up_apply, ↓hv_apply, ↓upO_some, ↓upO_none, ↓ev_tmp, ↓ev_const, ↓ev_func, ↓ev_global, init, Nat.reduceEqDiff, Nat.reduceAdd, Nat.reduceMul, Nat.reduceSub, ↓reduceIte, Int.reduceEq, Int.reduceNe, Nat.reduceLeDiff, one, Value.cells, Int.reduceLE, Int.reduceLT, Int.reduceToNat, add_mk, reduceCtorEq,  List.take_succ_cons, List.take_zero, List.drop_succ_cons, List.drop_zero, Try.underlying31, Try.underlying5, Try.underlying3, Try.underlying115, Try.underlying68, Try.underlying4, cells5, cells3, cells4, cells115, cells68, cells31, Try.results62]
    refine st_all hb3 rfl rfl (by simpa using netZ_one) fun w7 g1 g2 => ?_
    refine ld_all g2 rfl ?_
    simp only [↓rvD, miU, ↓up_apply, ↓hv_apply, ↓upO_some, ↓upO_none, ↓ev_tmp, ↓ev_const, ↓ev_func, ↓ev_global, init, Nat.reduceEqDiff, Nat.reduceAdd, Nat.reduceMul, Nat.reduceSub, ↓reduceIte, Int.reduceEq, Int.reduceNe, Nat.reduceLeDiff, one, Value.cells, Int.reduceLE, Int.reduceLT, Int.reduceToNat, add_mk, reduceCtorEq,  List.take_succ_cons, List.take_zero, List.drop_succ_cons, List.drop_zero, Try.underlying31, Try.underlying5, Try.underlying3, Try.underlying115, Try.underlying68, Try.underlying4, cells5, cells3, cells4, cells115, cells68, cells31, Try.results62]
    exact bad 4 (by rw [hgood h7 h8, if_pos h9]) (by omega) _ (g1.below hm13 (Nat.le_refl _))
  have hwhy : why4 l = 0 := by rw [hgood h7 h8, if_neg (by omega)]
  have hbody : ((l.take (two l 2).toNat).drop (head4 l).toNat).length = (two l 2).toNat - (head4 l).toNat := by rw [List.length_drop, List.length_take]; omega
  refine draw_facts 14 [[], [0], [0, 1], [], [], [], [3, 4, 5], [3, 4, 5, 6], [], [3, 4, 5, 6, 7, 8], [3, 4, 5, 6, 7, 8, 9], [3, 4, 5, 6, 7, 8, 9, 10], [0, 1, 2, 3, 4, 5, 6, 7, 8, 9, 10, 11], [], [0, 1, 2, 3, 4, 5, 6, 7, 8, 9, 10, 11, 12, 13]] (RV.look [
    (7, fun v w' => ∃ A' c', v = .slice A' ((two l 2).toNat - (head4 l).toNat) c' ∧ Own w' w.heap.size 5 1 A' ((two l 2).toNat - (head4 l).toNat) c' (((l.take (two l 2).toNat).drop (head4 l).toNat).map byteV)),
    (9, fun v _ => v = .int .i64 (two l 6)),
    (13, fun v w' => ∃ p, v = .pointer (some ⟨p, 0, none⟩) ∧ w3.heap.size ≤ p ∧ Blk w' p 115 netZ)]) mixed (by kernel_rfl) (by kernel_rfl) (look_keeps _ ?_) ?_
  · intro x hx
    simp only [List.mem_cons, List.not_mem_nil, or_false] at hx
    rcases hx with rfl | rfl | rfl
    · rintro v a b hab ⟨A', c', rfl, ho⟩
      exact ⟨A', c', rfl, ho.more hab⟩
    · rintro v a b hab rfl
      rfl
    · rintro v a b hab ⟨p, rfl, hp, hb⟩
      exact ⟨p, rfl, hp, hb.more hab⟩
  simp only [↓rvD, ↓rqD, miU, ↓up_apply, ↓hv_apply, ↓upO_some, ↓upO_none, ↓ev_tmp, ↓ev_const, ↓ev_func, ↓ev_global, init, Nat.reduceEqDiff, Nat.reduceAdd, Nat.reduceMul, Nat.reduceSub, ↓reduceIte, Int.reduceEq, Int.reduceNe, Nat.reduceLeDiff, one, Value.cells, Int.reduceLE, Int.reduceLT, Int.reduceToNat, add_mk, reduceCtorEq,  List.take_succ_cons, List.take_zero, List.drop_succ_cons, List.drop_zero, Try.underlying31, Try.underlying5, Try.underlying3, Try.underlying115, Try.underlying68, Try.underlying4, cells5, cells3, cells4, cells115, cells68, cells31, Try.results62]
  simp only [hh]
  have hbs : ∀ w4, More w3 w4 → Bs w4 (adv A c (head4 l).toNat 1) ((l.take (two l 2).toNat).drop (head4 l).toNat) := fun w4 h4 =>
    Cs.advB (Cs.takeB (hA3.more h4) _) (by rw [List.length_take]; omega)
  refine ⟨by omega, hA3.idxN (i := 9) (by omega) fun _ => ⟨by omega, by omega, by omega, by omega, fun w4 hm4 => ?_, ?_⟩⟩
  · refine call_ok Try.call72 (by have := clone w4 _ _ (c - (head4 l).toNat) (hbs w4 hm4) (by rw [hbody]; omega); rw [hbody] at this; exact this) ?_
    rintro _ w5 ⟨A', c', rfl, ho, hm5⟩
    simp only [↓rvD, ↓rqD, miU, ↓up_apply, ↓hv_apply, ↓upO_some, ↓upO_none, ↓ev_tmp, ↓ev_const, ↓ev_func, ↓ev_global, init, Nat.reduceEqDiff, Nat.reduceAdd, Nat.reduceMul, Nat.reduceSub, ↓reduceIte, Int.reduceEq, Int.reduceNe, Nat.reduceLeDiff, one, Value.cells, Int.reduceLE, Int.reduceLT, Int.reduceToNat, add_mk, reduceCtorEq,  List.take_succ_cons, List.take_zero, List.drop_succ_cons, List.drop_zero, Try.underlying31, Try.underlying5, Try.underlying3, Try.underlying115, Try.underlying68, Try.underlying4, cells5, cells3, cells4, cells115, cells68, cells31, Try.results62]
    exact ⟨hm5, A', c', rfl, Own.mono ho (Nat.le_trans hm13.size hm4.size)⟩
  rintro _ ⟨w4, hm4, A', c', rfl, ho4⟩
  simp only [↓rvD, ↓rqD, miU, ↓up_apply, ↓hv_apply, ↓upO_some, ↓upO_none, ↓ev_tmp, ↓ev_const, ↓ev_func, ↓ev_global, init, Nat.reduceEqDiff, Nat.reduceAdd, Nat.reduceMul, Nat.reduceSub, ↓reduceIte, Int.reduceEq, Int.reduceNe, Nat.reduceLeDiff, one, Value.cells, Int.reduceLE, Int.reduceLT, Int.reduceToNat, add_mk, reduceCtorEq,  List.take_succ_cons, List.take_zero, List.drop_succ_cons, List.drop_zero, Try.underlying31, Try.underlying5, Try.underlying3, Try.underlying115, Try.underlying68, Try.underlying4, cells5, cells3, cells4, cells115, cells68, cells31, Try.results62, hh]
  refine ⟨fun w5 hm5 _ => call_ok Try.call82 (inet_two w5 A l c 6 (hA3.more hm5) (by omega) (by omega) (by omega)) ?_, ?_⟩
  · rintro _ w6 ⟨rfl, hm6⟩
    simp only [↓rvD, ↓rqD, miU, ↓up_apply, ↓hv_apply, ↓upO_some, ↓upO_none, ↓ev_tmp, ↓ev_const, ↓ev_func, ↓ev_global, init, Nat.reduceEqDiff, Nat.reduceAdd, Nat.reduceMul, Nat.reduceSub, ↓reduceIte, Int.reduceEq, Int.reduceNe, Nat.reduceLeDiff, one, Value.cells, Int.reduceLE, Int.reduceLT, Int.reduceToNat, add_mk, reduceCtorEq,  List.take_succ_cons, List.take_zero, List.drop_succ_cons, List.drop_zero, Try.underlying31, Try.underlying5, Try.underlying3, Try.underlying115, Try.underlying68, Try.underlying4, cells5, cells3, cells4, cells115, cells68, cells31, Try.results62]
    exact hm6
  rintro _ ⟨w5, hm5, _, rfl⟩
  have t0 : 0 ≤ two l 6 ∧ two l 6 < 65536 := two_range l 6
  have hand : bits .and .i64 (two l 6) 8191 = two l 6 % 8192 := and_mask 13 t0.1 (by show _ ≤ (9223372036854775807 : Int); omega) (by decide)
  have hlaid : laid (fun i => ((#[{ name := "Proto", type := 5, offset := 0, embedded := false, tag := "", pkgPath := "", byteOffset := 0 },
        { name := "Src", type := 68, offset := 1, embedded := false, tag := "", pkgPath := "", byteOffset := 1 },
        { name := "Dst", type := 68, offset := 17, embedded := false, tag := "", pkgPath := "", byteOffset := 17 },
        { name := "Body", type := 31, offset := 33, embedded := false, tag := "", pkgPath := "", byteOffset := 40 },
        { name := "First", type := 4, offset := 34, embedded := false, tag := "", pkgPath := "", byteOffset := 64 }] : Array Field)[i]?).map fun f => (f.offset, Try.prog.cellsOf f.type)) (Value.agg netZ.toArray).cells.toList [(0, Value.int .u8 (bt l 9)), (3, .slice A' ((two l 2).toNat - (head4 l).toNat) c'), (4, .bool (decide (two l 6 % 8192 = 0)))] =
      some (.int .u8 (bt l 9) :: (((noBytes 16).map byteV) ++ (((noBytes 16).map byteV) ++ [.slice A' ((two l 2).toNat - (head4 l).toNat) c', .bool (decide (two l 6 % 8192 = 0))]))) := by
    simp only [laid, List.getElem?_toArray, List.getElem?_cons_zero, List.getElem?_cons_succ, Option.map_some, Option.bind_some, cells5, cells31, cells4]
    rfl
  simp only [↓rvD, ↓rqD, miU, ↓up_apply, ↓hv_apply, ↓upO_some, ↓upO_none, ↓ev_tmp, ↓ev_const, ↓ev_func, ↓ev_global, init, Nat.reduceEqDiff, Nat.reduceAdd, Nat.reduceMul, Nat.reduceSub, ↓reduceIte, Int.reduceEq, Int.reduceNe, Nat.reduceLeDiff, one, Value.cells, Int.reduceLE, Int.reduceLT, Int.reduceToNat, add_mk, reduceCtorEq,  hand, List.take_succ_cons, List.take_zero, List.drop_succ_cons, List.drop_zero, Try.underlying31, Try.underlying5, Try.underlying3, Try.underlying115, Try.underlying68, Try.underlying4, cells5, cells3, cells4, cells115, cells68, cells31, Try.results62, hh]
  refine build_struct Try.underlying115 zerNet netFields hlaid ?_
  simp only [↓rvD, ↓rqD, miU, ↓up_apply, ↓hv_apply, ↓upO_some, ↓upO_none, ↓ev_tmp, ↓ev_const, ↓ev_func, ↓ev_global, init, Nat.reduceEqDiff, Nat.reduceAdd, Nat.reduceMul, Nat.reduceSub, ↓reduceIte, Int.reduceEq, Int.reduceNe, Nat.reduceLeDiff, one, Value.cells, Int.reduceLE, Int.reduceLT, Int.reduceToNat, add_mk, reduceCtorEq,  hand, List.take_succ_cons, List.take_zero, List.drop_succ_cons, List.drop_zero, Try.underlying31, Try.underlying5, Try.underlying3, Try.underlying115, Try.underlying68, Try.underlying4, cells5, cells3, cells4, cells115, cells68, cells31, Try.results62, hh, zerNet]
  refine ⟨fun w6 hm6 => ⟨more_alloc .., _, rfl, hm6.size, Blk.new ..⟩, ?_⟩
  rintro _ ⟨w6, hm6, hf6, p, rfl, hp, hb6⟩
  simp only [↓rvD, ↓rqD, miU, ↓up_apply, ↓hv_apply, ↓upO_some, ↓upO_none, ↓ev_tmp, ↓ev_const, ↓ev_func, ↓ev_global, init, Nat.reduceEqDiff, Nat.reduceAdd, Nat.reduceMul, Nat.reduceSub, ↓reduceIte, Int.reduceEq, Int.reduceNe, Nat.reduceLeDiff, one, Value.cells, Int.reduceLE, Int.reduceLT, Int.reduceToNat, add_mk, reduceCtorEq,  hand, List.take_succ_cons, List.take_zero, List.drop_succ_cons, List.drop_zero, Try.underlying31, Try.underlying5, Try.underlying3, Try.underlying115, Try.underlying68, Try.underlying4, cells5, cells3, cells4, cells115, cells68, cells31, Try.results62, hh]
  intro w7 hm7 hf7
  obtain ⟨⟨A2, c2, e2, ho7⟩, p2, e3, -, hb7⟩ := hf7
  cases e2; cases e3
  have hm17 : More w w7 := hm13.trans hm7
  have s1 : w.heap.size < p := Nat.lt_of_lt_of_le hb3.lt hp
  refine st_all hb7 rfl rfl ?_ fun w8 g1 g2 => ?_
  · intro u hu
    simp only [List.mem_cons, List.mem_append, List.not_mem_nil, or_false] at hu
    rcases hu with rfl | hu | hu | rfl | rfl
    · rfl
    · exact byteV_one _ u hu
    · exact byteV_one _ u hu
    · rfl
    · rfl
  have hm18 : More w w8 := g1.below hm17 (by omega)
  have ho8 := ho7.wr g1 (ho7.ne_blk hb7 (by decide))
  have hA8 := hA.more hm18
  have hb8 := g1.blk (hb3.more hm7) (by omega)
  refine draw_facts 4 [[], [0], [], [2], [0, 1, 2, 3]] (RV.look []) mixed (by kernel_rfl) (by kernel_rfl) (look_keeps _ (by simp)) ?_
  simp only [↓rvD, ↓rqD, miU, ↓up_apply, ↓hv_apply, ↓upO_some, ↓upO_none, ↓ev_tmp, ↓ev_const, ↓ev_func, ↓ev_global, init, Nat.reduceEqDiff, Nat.reduceAdd, Nat.reduceMul, Nat.reduceSub, ↓reduceIte, Int.reduceEq, Int.reduceNe, Nat.reduceLeDiff, one, Value.cells, Int.reduceLE, Int.reduceLT, Int.reduceToNat, add_mk, reduceCtorEq,  List.take_succ_cons, List.take_zero, List.drop_succ_cons, List.drop_zero, Try.underlying31, Try.underlying5, Try.underlying3, Try.underlying115, Try.underlying68, Try.underlying4, cells5, cells3, cells4, cells115, cells68, cells31, Try.results62, hh, hand]
  have hsrc : ((l.drop 12).take 4).length = 4 := by simp; omega
  have hdst : ((l.drop 16).take 4).length = 4 := by simp; omega
  refine ⟨by omega, fun w9 hm9 => ?_⟩
  refine copy_blk (news := ((l.drop 12).take 4).map byteV) Try.underlying31 cells5 (g2.more hm9) (Cs.take (Cs.takeB (Cs.advB (hA8.more hm9) hc) 4) _) (by simpa using hsrc) (byteV_one _) (by simp [noBytes]) fun w10 k1 k2 => ?_
  have hm110 : More w w10 := k1.below (hm18.trans hm9) (by omega)
  have ho10 := (ho8.more hm9).wr k1 (ho7.ne_blk hb7 (by decide))
  have hb10 := k1.blk (hb8.more hm9) (by omega)
  have hA10 := hA.more hm110
  simp only [↓rvD, miU, ↓up_apply, ↓hv_apply, ↓upO_some, ↓upO_none, ↓ev_tmp, ↓ev_const, ↓ev_func, ↓ev_global, init, Nat.reduceEqDiff, Nat.reduceAdd, Nat.reduceMul, Nat.reduceSub, ↓reduceIte, Int.reduceEq, Int.reduceNe, Nat.reduceLeDiff, one, Value.cells, Int.reduceLE, Int.reduceLT, Int.reduceToNat, add_mk, reduceCtorEq,  List.take_succ_cons, List.take_zero, List.drop_succ_cons, List.drop_zero, Try.underlying31, Try.underlying5, Try.underlying3, Try.underlying115, Try.underlying68, Try.underlying4, cells5, cells3, cells4, cells115, cells68, cells31, Try.results62]
  refine draw_facts 4 [[], [0], [], [2], [0, 1, 2, 3]] (RV.look []) mixed (by kernel_rfl) (by kernel_rfl) (look_keeps _ (by simp)) ?_
  simp only [↓rvD, ↓rqD, miU, ↓up_apply, ↓hv_apply, ↓upO_some, ↓upO_none, ↓ev_tmp, ↓ev_const, ↓ev_func, ↓ev_global, init, Nat.reduceEqDiff, Nat.reduceAdd, Nat.reduceMul, Nat.reduceSub, ↓reduceIte, Int.reduceEq, Int.reduceNe, Nat.reduceLeDiff, one, Value.cells, Int.reduceLE, Int.reduceLT, Int.reduceToNat, add_mk, reduceCtorEq,  List.take_succ_cons, List.take_zero, List.drop_succ_cons, List.drop_zero, Try.underlying31, Try.underlying5, Try.underlying3, Try.underlying115, Try.underlying68, Try.underlying4, cells5, cells3, cells4, cells115, cells68, cells31, Try.results62, hh, hand]
  refine ⟨by omega, fun w11 hm11 => ?_⟩
  refine copy_blk (news := ((l.drop 16).take 4).map byteV) Try.underlying31 cells5 (k2.more hm11) (Cs.take (Cs.takeB (Cs.advB (hA10.more hm11) hc) 4) _) (by simpa using hdst) (byteV_one _) (by simp [noBytes, splice_length]) fun w12 k3 k4 => ?_
  have hm112 : More w w12 := k3.below (hm110.trans hm11) (by omega)
  have ho12 := (ho10.more hm11).wr k3 (ho7.ne_blk hb7 (by decide))
  have hb12 := k3.blk (hb10.more hm11) (by omega)
  have hcells : splice (splice ((Value.int .u8 (bt l 9) :: (((noBytes 16).map byteV) ++ (((noBytes 16).map byteV) ++ [.slice A' ((two l 2).toNat - (head4 l).toNat) c', .bool (decide (two l 6 % 8192 = 0))]))).toArray.toList) 1 ((((l.drop 12).take 4).map byteV).take 16)) 17 ((((l.drop 16).take 4).map byteV).take 16) = (net4 l).cells A' c' := by
    unfold net4 NetM.cells
    simp only [hbody]
    generalize (l.drop 12).take 4 = s at hsrc ⊢
    generalize (l.drop 16).take 4 = d at hdst ⊢
    obtain ⟨a1, a2, a3, a4, rfl⟩ := four hsrc
    obtain ⟨d1, d2, d3, d4, rfl⟩ := four hdst
    rfl
  simp only [↓rvD, miU, ↓up_apply, ↓hv_apply, ↓upO_some, ↓upO_none, ↓ev_tmp, ↓ev_const, ↓ev_func, ↓ev_global, init, Nat.reduceEqDiff, Nat.reduceAdd, Nat.reduceMul, Nat.reduceSub, ↓reduceIte, Int.reduceEq, Int.reduceNe, Nat.reduceLeDiff, one, Value.cells, Int.reduceLE, Int.reduceLT, Int.reduceToNat, add_mk, reduceCtorEq,  List.take_succ_cons, List.take_zero, List.drop_succ_cons, List.drop_zero, Try.underlying31, Try.underlying5, Try.underlying3, Try.underlying115, Try.underlying68, Try.underlying4, cells5, cells3, cells4, cells115, cells68, cells31, Try.results62]
  rw [hcells] at k4
  have hlen : ((net4 l).cells A' c').length = 35 := by rw [← hcells]; simp [splice_length, noBytes]
  refine ld_all k4 hlen ?_
  simp only [↓rvD, miU, ↓up_apply, ↓hv_apply, ↓upO_some, ↓upO_none, ↓ev_tmp, ↓ev_const, ↓ev_func, ↓ev_global, init, Nat.reduceEqDiff, Nat.reduceAdd, Nat.reduceMul, Nat.reduceSub, ↓reduceIte, Int.reduceEq, Int.reduceNe, Nat.reduceLeDiff, one, Value.cells, Int.reduceLE, Int.reduceLT, Int.reduceToNat, add_mk, reduceCtorEq,  List.take_succ_cons, List.take_zero, List.drop_succ_cons, List.drop_zero, Try.underlying31, Try.underlying5, Try.underlying3, Try.underlying115, Try.underlying68, Try.underlying4, cells5, cells3, cells4, cells115, cells68, cells31, Try.results62]
  refine st_all hb12 (by simpa using hlen) rfl ?_ fun w13 k5 k6 => ?_
  · unfold NetM.cells
    intro u hu
    simp only [List.mem_cons, List.mem_append, List.not_mem_nil, or_false] at hu
    rcases hu with rfl | hu | hu | rfl | rfl
    · rfl
    · exact byteV_one _ u hu
    · exact byteV_one _ u hu
    · rfl
    · rfl
  refine ld_all k6 (by simpa using hlen) ?_
  simp only [↓rvD, miU, ↓up_apply, ↓hv_apply, ↓upO_some, ↓upO_none, ↓ev_tmp, ↓ev_const, ↓ev_func, ↓ev_global, init, Nat.reduceEqDiff, Nat.reduceAdd, Nat.reduceMul, Nat.reduceSub, ↓reduceIte, Int.reduceEq, Int.reduceNe, Nat.reduceLeDiff, one, Value.cells, Int.reduceLE, Int.reduceLT, Int.reduceToNat, add_mk, reduceCtorEq,  List.take_succ_cons, List.take_zero, List.drop_succ_cons, List.drop_zero, Try.underlying31, Try.underlying5, Try.underlying3, Try.underlying115, Try.underlying68, Try.underlying4, cells5, cells3, cells4, cells115, cells68, cells31, Try.results62]
  have hp4 : parse4 l = net4 l := by unfold parse4; rw [if_pos hwhy]
  rw [hp4, hwhy]
  refine ⟨A', c', rfl, ?_, k5.below hm112 (Nat.le_refl _)⟩
  have := ho12.wr k5 (ho7.ne_blk (hb3.more hm7) (by decide))
  rw [← hbody] at this
  exact this
end Go.Proofs.Ytbknfmaefmbfdaa
