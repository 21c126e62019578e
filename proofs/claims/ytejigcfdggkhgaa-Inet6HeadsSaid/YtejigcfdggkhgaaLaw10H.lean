/-
  Layer 10: Inet6Heads.
-/
import Derived.Test.YtejigcfdggkhgaaLaw10
namespace Go.Proofs.Ytejigcfdggkhgaa
open Go Go.RowKit Go.Proofs.RV
set_option linter.unusedSimpArgs false
set_option linter.unusedVariables false
set_option maxRecDepth 10000
set_option maxHeartbeats 4000000

theorem go6_less : ∀ (r : Nat) (p : Int) (x : List UInt8) (b : Bool), (go6 (r + 1) p x b).1 = 0 → (go6 r p x b).1 = 6 ∨ go6 r p x b = go6 (r + 1) p x b := by
  intro r
  induction r with
  | zero =>
    intro p x b h
    cases hm : (more6 p && !b) with
    | true => left; rw [go6_more hm]
    | false => right; rw [go6_end hm, go6_end hm]
  | succ r ih =>
    intro p x b h
    cases hm : (more6 p && !b) with
    | true =>
      rw [go6_more hm] at h
      rw [go6_more hm, go6_more (r := r + 1 + 1) hm]
      simp only at h ⊢
      cases hp : pass6 p x with
      | none => rw [hp] at h; simp at h
      | some y =>
        rw [hp] at h
        exact ih _ _ _ h
    | false => right; rw [go6_end hm, go6_end hm]
def kinds6 (k : Nat) : Int := ([0, 43, 60, 44] : List Int).getD k 0
def front6 (l : List UInt8) (k : Int) : List UInt8 := (((l.take 40).set 4 (u8 ((8 + two l 4) / 256))).set 5 (u8 ((8 + two l 4) % 256))).set 6 (u8 k)
def extra6 (l : List UInt8) : List UInt8 := [u8 (bt l 6), 0, 0, 0, 0, 0, 0, 0]
def headed6 (l : List UInt8) (k : Int) : List UInt8 := front6 l k ++ extra6 l ++ l.drop 40
theorem headed6_parse {l : List UInt8} (h : why6 l = 0) (hall : 8 + two l 4 ≤ 65535) (k : Int) (hk : k = 0 ∨ k = 43 ∨ k = 60 ∨ k = 44) :
    why6 (headed6 l k) = 6 ∨ why6 (headed6 l k) = 0 ∧ parse6 (headed6 l k) = parse6 l := by
  obtain ⟨h1, h2, h3⟩ := why6_zero h
  have t0 := two_range l 4
  have hkr : 0 ≤ k ∧ k < 256 := by omega
  have hf : (front6 l k).length = 40 := by simp [front6]; omega
  have he : (extra6 l).length = 8 := rfl
  have hlen : (headed6 l k).length = 8 + l.length := by simp only [headed6, List.length_append, hf, he, List.length_drop]; omega
  have hb : ∀ i, i < 40 → bt (headed6 l k) i = bt (front6 l k) i := fun i hi => by
    unfold headed6 bt
    rw [List.append_assoc]
    simp [List.getD_eq_getElem?_getD, List.getElem?_append_left (show i < (front6 l k).length by omega)]
  have ht40 : (l.take 40).length = 40 := by rw [List.length_take]; omega
  have b0 : bt (headed6 l k) 0 = bt l 0 := by
    rw [hb 0 (by omega)]
    unfold front6 bt
    simp [List.getD_eq_getElem?_getD, List.getElem?_set, List.getElem?_take]
  have b4 : bt (headed6 l k) 4 = (8 + two l 4) / 256 := by
    rw [hb 4 (by omega), ← u8_toNat (x := (8 + two l 4) / 256) (by omega) (by omega)]
    unfold front6 bt
    simp [List.getD_eq_getElem?_getD, List.getElem?_set, ht40]
  have b5 : bt (headed6 l k) 5 = (8 + two l 4) % 256 := by
    rw [hb 5 (by omega), ← u8_toNat (x := (8 + two l 4) % 256) (by omega) (by omega)]
    unfold front6 bt
    simp [List.getD_eq_getElem?_getD, List.getElem?_set, ht40]
  have b6 : bt (headed6 l k) 6 = k := by
    rw [hb 6 (by omega)]
    conv => rhs; rw [← u8_toNat hkr.1 hkr.2]
    unfold front6 bt
    simp [List.getD_eq_getElem?_getD, List.getElem?_set, ht40]
  have t4 : two (headed6 l k) 4 = 8 + two l 4 := by
    show bt (headed6 l k) 4 * 256 + bt (headed6 l k) 5 = _
    rw [b4, b5]
    omega
  obtain ⟨a, ha⟩ := Int.eq_ofNat_of_zero_le (show 0 ≤ 40 + two l 4 by omega)
  have ha1 : (40 + two l 4).toNat = a := by omega
  have ha2 : (40 + two (headed6 l k) 4).toNat = a + 8 := by omega
  have hrest : ((headed6 l k).take (a + 8)).drop 40 = extra6 l ++ (l.take a).drop 40 := by
    unfold headed6
    rw [List.append_assoc, show a + 8 = (front6 l k).length + ((extra6 l).length + (a - 40)) by omega, List.take_length_add_append, List.take_length_add_append, show 40 = (front6 l k).length by omega, List.drop_left, hf, List.drop_take]
  have e1 : walk6 (headed6 l k) = go6 8 k (extra6 l ++ (l.take a).drop 40) false := by
    unfold walk6
    rw [if_neg (by omega), b0, if_neg (by omega), if_neg (by omega), b6, ha2, hrest]
  have e2 : walk6 l = go6 8 (bt l 6) ((l.take a).drop 40) false := by unfold walk6; rw [if_neg (by omega), if_neg (by omega), if_neg (by omega), ha1]
  have hmk : (more6 k && !false) = true := by rcases hk with rfl | rfl | rfl | rfl <;> rfl
  have hpass : pass6 k (extra6 l ++ (l.take a).drop 40) = some ((l.take a).drop 40, false) := by
    have hh : head6 k (extra6 l ++ (l.take a).drop 40) = 8 := by
      unfold head6
      split
      · rfl
      · rfl
    have hla : late6 k (extra6 l ++ (l.take a).drop 40) = false := by
      unfold late6
      split
      · have : two (extra6 l ++ (l.take a).drop 40) 2 = 0 := rfl
        rw [this]
        rfl
      · rfl
    unfold pass6
    rw [if_neg (by rw [List.length_append, he]; omega), hh, if_neg (by rw [List.length_append, he]; omega), hla, ← he, List.drop_left]
  have hfirst : bt (extra6 l ++ (l.take a).drop 40) 0 = bt l 6 := by
    show ((u8 (bt l 6)).toNat : Int) = _
    exact u8_toNat (bt_nonneg _ _) (bt_lt _ _)
  have e3 : walk6 (headed6 l k) = go6 7 (bt l 6) ((l.take a).drop 40) false := by
    rw [e1, go6_more hmk]
    simp only [hpass, hfirst]
  have hz : (go6 8 (bt l 6) ((l.take a).drop 40) false).1 = 0 := by rw [← e2]; exact h
  rcases go6_less 7 _ _ _ hz with h6 | h6
  · left
    unfold why6
    rw [e3, h6]
  · right
    have hw : walk6 (headed6 l k) = walk6 l := by rw [e3, h6, e2]
    have hw0 : why6 (headed6 l k) = 0 := by unfold why6; rw [hw]; exact h
    refine ⟨hw0, ?_⟩
    unfold parse6
    rw [if_pos hw0, if_pos h, hw]
    have d : ∀ i j, 7 ≤ i → i + j ≤ 40 → ((headed6 l k).drop i).take j = (l.drop i).take j := fun i j hi hij => by
      unfold headed6
      rw [List.append_assoc, List.drop_append_of_le_length (by omega), List.take_append_of_le_length (by rw [List.length_drop]; omega)]
      unfold front6
      rw [List.drop_set_of_lt (by omega), List.drop_set_of_lt (by omega), List.drop_set_of_lt (by omega), List.drop_take, List.take_take, Nat.min_eq_left (by omega)]
    rw [d 8 16 (by omega) (by omega), d 24 16 (by omega) (by omega)]
theorem inet6_heads (w : World) (A : Option Addr) (l : List UInt8) (c : Nat) (q : Int) (hA : Bs w A l) (hc : l.length ≤ c) (hq : 0 ≤ q ∧ q < 256) :
    Ret Try.prog 7 #[.slice A l.length c, .int .u8 q] w fun v w' => v = .bool true ∧ More w w' := by
  refine ret_of Try.func7 rfl (by kernel_rfl) (Nat.le_of_ble_eq_true (by kernel_rfl)) ?_
  simp (config := {maxSteps := 1000000}) only [↓zvD, zvU, ↓up_apply, ↓hv_apply, ↓upO_some, ↓upO_none, ↓ev_tmp, ↓ev_const, ↓ev_func, ↓ev_global, init, Nat.reduceEqDiff, Nat.reduceAdd, Nat.reduceMul, Nat.reduceSub, ↓reduceIte, Int.reduceEq, Int.reduceNe, Nat.reduceLeDiff, one, Value.cells, Int.reduceLE, Int.reduceLT, Int.reduceToNat, add_mk, reduceCtorEq, tyF]
  refine call_ok Try.call26 (law10_awake w) ?_
  rintro _ w1 ⟨rfl, hm1⟩
  try simp (config := {maxSteps := 1000000}) only [↓zvD, zvU, ↓up_apply, ↓hv_apply, ↓upO_some, ↓upO_none, ↓ev_tmp, ↓ev_const, ↓ev_func, ↓ev_global, init, Nat.reduceEqDiff, Nat.reduceAdd, Nat.reduceMul, Nat.reduceSub, ↓reduceIte, Int.reduceEq, Int.reduceNe, Nat.reduceLeDiff, one, Value.cells, Int.reduceLE, Int.reduceLT, Int.reduceToNat, add_mk, reduceCtorEq, tyF]
  refine ⟨fun h1 => ?_, fun h1 => ?_⟩
  · refine call_ok Try.call26 (law10_awake w1) ?_
    rintro _ w2 ⟨rfl, hm2⟩
    simp (config := {maxSteps := 1000000}) only [↓zvD, zvU, ↓up_apply, ↓hv_apply, ↓upO_some, ↓upO_none, ↓ev_tmp, ↓ev_const, ↓ev_func, ↓ev_global, init, Nat.reduceEqDiff, Nat.reduceAdd, Nat.reduceMul, Nat.reduceSub, ↓reduceIte, Int.reduceEq, Int.reduceNe, Nat.reduceLeDiff, one, Value.cells, Int.reduceLE, Int.reduceLT, Int.reduceToNat, add_mk, reduceCtorEq, tyF]
    exact More.trans hm1 hm2
  refine call_ok Try.call27 (inet6_parse w1 A l c (hA.more hm1) hc (by omega)) ?_
  rintro _ w2 ⟨A2, c2, rfl, ho2, hm2⟩
  simp (config := {maxSteps := 1000000}) only [↓zvD, zvU, ↓up_apply, ↓hv_apply, ↓upO_some, ↓upO_none, ↓ev_tmp, ↓ev_const, ↓ev_func, ↓ev_global, init, Nat.reduceEqDiff, Nat.reduceAdd, Nat.reduceMul, Nat.reduceSub, ↓reduceIte, Int.reduceEq, Int.reduceNe, Nat.reduceLeDiff, one, Value.cells, Int.reduceLE, Int.reduceLT, Int.reduceToNat, add_mk, reduceCtorEq, tyF, zerNet]
  refine net_var (parse6_fit l) fun w3 hm3 hb3 hs3 => ?_
  have hm13 := (hm1.trans hm2).trans hm3
  have f1 := parse6_fit l
  try simp (config := {maxSteps := 1000000}) only [↓zvD, zvU, ↓up_apply, ↓hv_apply, ↓upO_some, ↓upO_none, ↓ev_tmp, ↓ev_const, ↓ev_func, ↓ev_global, init, Nat.reduceEqDiff, Nat.reduceAdd, Nat.reduceMul, Nat.reduceSub, ↓reduceIte, Int.reduceEq, Int.reduceNe, Nat.reduceLeDiff, one, Value.cells, Int.reduceLE, Int.reduceLT, Int.reduceToNat, add_mk, reduceCtorEq, tyF]
  refine ⟨fun hw => ?_, fun _ => hm13⟩
  obtain ⟨g1, g2, g3⟩ := why6_zero hw
  have t0 := two_range l 4
  obtain ⟨a, rfl⟩ := hA.isAt (by omega)
  have hA3 := hA.more hm13
  have c4' := hA3.cellN (i := 4) (by omega)
  have c5' := hA3.cellN (i := 5) (by omega)
  have l4 : (4 : Int) < l.length := by omega
  have l5 : (5 : Int) < l.length := by omega
  have b2 := bt_nonneg l 4
  have b3 := bt_lt l 4
  have b4 := bt_nonneg l 5
  have b5 := bt_lt l 5
  have hab := hA3.blk_lt (by omega)
  have k7 : IntKind.i64.wrap (IntKind.i64.wrap (8 + IntKind.i64.wrap (IntKind.i64.wrap (bt l 4) * 256)) + IntKind.i64.wrap (bt l 5)) = 8 + two l 4 := by
    rw [w64_byte, w64_byte, w64 (x := bt l 4 * 256) (by omega) (by omega), w64 (x := 8 + bt l 4 * 256) (by omega) (by omega), w64 (by omega) (by omega)]
    show _ = 8 + (bt l 4 * 256 + bt l 5)
    omega
  generalize bt l 4 = x4 at c4' k7
  generalize bt l 5 = x5 at c5' k7
  refine draw_calm mixed (by kernel_rfl) ?_
  simp (config := {maxSteps := 1000000}) only [↓zvD, zvU, ↓zqD, ↓up_apply, ↓hv_apply, ↓upO_some, ↓upO_none, ↓ev_tmp, ↓ev_const, ↓ev_func, ↓ev_global, init, Nat.reduceEqDiff, Nat.reduceAdd, Nat.reduceMul, Nat.reduceSub, ↓reduceIte, Int.reduceEq, Int.reduceNe, Nat.reduceLeDiff, one, Value.cells, Int.reduceLE, Int.reduceLT, Int.reduceToNat, add_mk, reduceCtorEq, tyF, c4', c5', l4, l5, hab, add_block, k7]
  intro w4 hm4
  have hm14 : More w w4 := hm13.trans hm4
  try simp (config := {maxSteps := 1000000}) only [↓zvD, zvU, ↓up_apply, ↓hv_apply, ↓upO_some, ↓upO_none, ↓ev_tmp, ↓ev_const, ↓ev_func, ↓ev_global, init, Nat.reduceEqDiff, Nat.reduceAdd, Nat.reduceMul, Nat.reduceSub, ↓reduceIte, Int.reduceEq, Int.reduceNe, Nat.reduceLeDiff, one, Value.cells, Int.reduceLE, Int.reduceLT, Int.reduceToNat, add_mk, reduceCtorEq, tyF]
  refine ⟨fun _ => hm14, fun hall => ?_⟩
  have e1 : IntKind.u8.wrap ((8 + two l 4).fdiv (2 ^ min 8 IntKind.i64.bits)) = (8 + two l 4) / 256 := by
    rw [show min 8 IntKind.i64.bits = 8 from rfl, Int.fdiv_eq_ediv_of_nonneg _ (by omega)]
    exact wu8 (by omega) (by omega)
  have e2 : IntKind.u8.wrap (8 + two l 4) = (8 + two l 4) % 256 := by simp [IntKind.wrap, IntKind.signed, IntKind.bits]
  have h40c : 40 ≤ c := by omega
  refine bslice (z := .int .u8 0) (cells := #[]) Try.underlying23 byteE (by omega) (bcells_list [] (by simp)) ?_
  simp (config := {maxSteps := 1000000}) only [↓zvD, zvU, ↓up_apply, ↓hv_apply, ↓upO_some, ↓upO_none, ↓ev_tmp, ↓ev_const, ↓ev_func, ↓ev_global, init, Nat.reduceEqDiff, Nat.reduceAdd, Nat.reduceMul, Nat.reduceSub, ↓reduceIte, Int.reduceEq, Int.reduceNe, Nat.reduceLeDiff, one, Value.cells, Int.reduceLE, Int.reduceLT, Int.reduceToNat, add_mk, reduceCtorEq, tyF, h40c]
  have ht40 : (l.take 40).length = 40 := by rw [List.length_take]; omega
  have hm5 := more_alloc w4 (.cells #[] 5)
  have s5 : (w4.alloc (.cells #[] 5)).heap.size = w4.heap.size + 1 := size_alloc _ _
  have own0 := Own.made w4 5 1 #[] 0 rfl (by simp [maxLen]) (B := w4.heap.size) (Nat.le_refl _)
  generalize w4.alloc (.cells #[] 5) = w5 at hm5 s5 own0 ⊢
  refine app_own (m := 40) Try.underlying23 byteE rfl (by omega) own0 (Cs.takeB (hA.more (hm14.trans hm5)) 40) (by simpa using ht40) (byteV_one _) (by simp only [maxLen]; omega) (by omega) (by omega) ?_
  intro A6 c6 w6 ho6 hg6 _
  have hm46 : More w4 w6 := grown_below own0 hm5 (by omega) hg6
  rw [Nat.zero_add, show (#[] : Array Value).toList = [] from rfl, List.nil_append] at ho6
  rw [Nat.zero_add]
  obtain ⟨g, rfl, hg1, hg2⟩ := ho6.at' (by omega)
  simp (config := {maxSteps := 1000000}) only [↓zvD, zvU, ↓up_apply, ↓hv_apply, ↓upO_some, ↓upO_none, ↓ev_tmp, ↓ev_const, ↓ev_func, ↓ev_global, init, Nat.reduceEqDiff, Nat.reduceAdd, Nat.reduceMul, Nat.reduceSub, ↓reduceIte, Int.reduceEq, Int.reduceNe, Nat.reduceLeDiff, one, Value.cells, Int.reduceLE, Int.reduceLT, Int.reduceToNat, add_mk, reduceCtorEq, tyF, e1, e2]
  refine bslice (z := .int .u8 0) (cells := #[.int .u8 0, .int .u8 43, .int .u8 60, .int .u8 44]) Try.underlying23 byteE (by omega) (by have := bcells_list (z := .int .u8 0) [.int .u8 0, .int .u8 43, .int .u8 60, .int .u8 44] (by intro v hv; simp at hv; rcases hv with rfl | rfl | rfl | rfl <;> rfl); exact this) ?_
  have hm7 := more_alloc w6 (.cells #[.int .u8 0, .int .u8 43, .int .u8 60, .int .u8 44] 5)
  have hb7 := Blk.new w6 5 #[.int .u8 0, .int .u8 43, .int .u8 60, .int .u8 44]
  have s7 := size_alloc w6 (.cells #[.int .u8 0, .int .u8 43, .int .u8 60, .int .u8 44] 5)
  generalize w6.alloc (.cells #[.int .u8 0, .int .u8 43, .int .u8 60, .int .u8 44] 5) = w7 at hm7 hb7 s7 ⊢
  have k6 : q.tmod 4 = q % 4 := Int.tmod_eq_emod_of_nonneg hq.1
  obtain ⟨j, hj⟩ := Int.eq_ofNat_of_zero_le (show 0 ≤ q % 4 by omega)
  have hj4 : j < 4 := by omega
  have hjk : ∃ k : Int, (k = 0 ∨ k = 43 ∨ k = 60 ∨ k = 44) ∧ w7.cell? ⟨w6.heap.size, j, none⟩ = some (.int .u8 k) := by
    rw [hb7.cell]
    rcases (by omega : j = 0 ∨ j = 1 ∨ j = 2 ∨ j = 3) with rfl | rfl | rfl | rfl
    · exact ⟨0, by omega, rfl⟩
    · exact ⟨43, by omega, rfl⟩
    · exact ⟨60, by omega, rfl⟩
    · exact ⟨44, by omega, rfl⟩
  obtain ⟨k, hk, ck⟩ := hjk
  have hkr : 0 ≤ k ∧ k < 256 := by omega
  rw [hj] at k6
  have hj4i : (j : Int) < 4 := by omega
  have hj0 : (0 : Int) ≤ j := by omega
  have ho7 := ho6.more hm7
  simp (config := {maxSteps := 1000000}) only [↓zvD, zvU, ↓up_apply, ↓hv_apply, ↓upO_some, ↓upO_none, ↓ev_tmp, ↓ev_const, ↓ev_func, ↓ev_global, init, Nat.reduceEqDiff, Nat.reduceAdd, Nat.reduceMul, Nat.reduceSub, ↓reduceIte, Int.reduceEq, Int.reduceNe, Nat.reduceLeDiff, one, Value.cells, Int.reduceLE, Int.reduceLT, Int.reduceToNat, add_mk, reduceCtorEq, tyF, k6, hj4i, hj0, ck, e1, e2, Int.toNat_natCast]
  refine ho7.stG (by omega) rfl fun w8 p1 p2 => ?_
  try simp (config := {maxSteps := 1000000}) only [↓zvD, zvU, ↓up_apply, ↓hv_apply, ↓upO_some, ↓upO_none, ↓ev_tmp, ↓ev_const, ↓ev_func, ↓ev_global, init, Nat.reduceEqDiff, Nat.reduceAdd, Nat.reduceMul, Nat.reduceSub, ↓reduceIte, Int.reduceEq, Int.reduceNe, Nat.reduceLeDiff, one, Value.cells, Int.reduceLE, Int.reduceLT, Int.reduceToNat, add_mk, reduceCtorEq, tyF]
  refine p2.stG (by omega) rfl fun w9 p3 p4 => ?_
  try simp (config := {maxSteps := 1000000}) only [↓zvD, zvU, ↓up_apply, ↓hv_apply, ↓upO_some, ↓upO_none, ↓ev_tmp, ↓ev_const, ↓ev_func, ↓ev_global, init, Nat.reduceEqDiff, Nat.reduceAdd, Nat.reduceMul, Nat.reduceSub, ↓reduceIte, Int.reduceEq, Int.reduceNe, Nat.reduceLeDiff, one, Value.cells, Int.reduceLE, Int.reduceLT, Int.reduceToNat, add_mk, reduceCtorEq, tyF]
  refine p4.stG (by omega) rfl fun w10 p5 p6 => ?_
  have hfr : ((((l.take 40).map byteV).set 4 (.int .u8 ((8 + two l 4) / 256))).set 5 (.int .u8 ((8 + two l 4) % 256))).set 6 (.int .u8 k) = (front6 l k).map byteV := by
    unfold front6
    rw [List.map_set, List.map_set, List.map_set, byteV_u8 (by omega) (by omega), byteV_u8 (by omega) (by omega), byteV_u8 hkr.1 hkr.2]
  rw [hfr] at p6
  have hm4a : More w4 w10 := p5.below (p3.below (p1.below (hm46.trans hm7) (by omega)) (by omega)) (by omega)
  have hm10 := hm14.trans hm4a
  have hA10 := hA.more hm10
  have c6' := hA10.cellN (i := 6) (by omega)
  have l6 : (6 : Int) < l.length := by omega
  have hs10 := hm4a.size
  have hg10 : g < w10.heap.size := (p6.atB_ge ⟨_, rfl, rfl⟩).2
  have b6r := bt_nonneg l 6
  have b6r' := bt_lt l 6
  have hab10 : a.block < w4.heap.size := by have := hm14.size; have := hA.blk_lt (by omega); omega
  try simp (config := {maxSteps := 1000000}) only [↓zvD, zvU, ↓up_apply, ↓hv_apply, ↓upO_some, ↓upO_none, ↓ev_tmp, ↓ev_const, ↓ev_func, ↓ev_global, init, Nat.reduceEqDiff, Nat.reduceAdd, Nat.reduceMul, Nat.reduceSub, ↓reduceIte, Int.reduceEq, Int.reduceNe, Nat.reduceLeDiff, one, Value.cells, Int.reduceLE, Int.reduceLT, Int.reduceToNat, add_mk, reduceCtorEq, tyF]
  have hx : u8 (bt l 6) = u8 (bt l 6) := rfl
  have eX : (extra6 l).map byteV = [.int .u8 (bt l 6), .int .u8 0, .int .u8 0, .int .u8 0, .int .u8 0, .int .u8 0, .int .u8 0, .int .u8 0] := by
    simp only [extra6, List.map_cons, List.map_nil]
    rw [byteV_u8 b6r b6r']
    rfl
  have hfl : (front6 l k).length = 40 := by simp [front6]; omega
  have hhl : (headed6 l k).length = 8 + l.length := by simp only [headed6, List.length_append, hfl, List.length_drop]; show 40 + 8 + (l.length - 40) = _; omega
  have hL1 : ((headed6 l k).map byteV).take 40 = (front6 l k).map byteV := by
    rw [← List.map_take]
    congr 1
    unfold headed6
    rw [List.append_assoc, ← hfl, List.take_left]
  have hL2 : ((headed6 l k).map byteV).take 48 = (front6 l k ++ extra6 l).map byteV := by
    rw [← List.map_take]
    congr 1
    unfold headed6
    rw [show 48 = (front6 l k ++ extra6 l).length by rw [List.length_append, hfl]; rfl, List.take_left]
  have hB10 : Below w4.heap.size w4 w10 := hm4a
  refine draw_preB w4.heap.size 5 8 ((headed6 l k).map byteV) 8 [[], [], [1], [1, 2], [1, 2, 3], [0, 1, 2, 3, 4], [], [6], [0, 1, 2, 3, 4, 5, 6, 7], [0, 1, 2, 3, 4, 5, 6, 7, 8]] (RV.look [(4, fun v w' => ∃ A, v = .slice A 8 8 ∧ Own w' w4.heap.size 5 1 A 8 8 ((extra6 l).map byteV)), (5, Holds w4.heap.size 5 ((headed6 l k).map byteV) 48)]) hs10 mixed (by kernel_rfl) (by kernel_rfl) (look_pre _ ?_) ?_
  · intro y hy
    simp only [List.mem_cons, List.not_mem_nil, or_false] at hy
    rcases hy with rfl | rfl
    · rintro v a b hp ⟨A, rfl, ho⟩
      exact ⟨A, rfl, hp.low _ _ _ _ (by omega) ho⟩
    · exact fun v a b hp h => h.pre hp
  simp (config := {maxSteps := 1000000}) only [↓zvD, zvU, ↓zqD, ↓up_apply, ↓hv_apply, ↓upO_some, ↓upO_none, ↓ev_tmp, ↓ev_const, ↓ev_func, ↓ev_global, init, Nat.reduceEqDiff, Nat.reduceAdd, Nat.reduceMul, Nat.reduceSub, ↓reduceIte, Int.reduceEq, Int.reduceNe, Nat.reduceLeDiff, one, Value.cells, Int.reduceLE, Int.reduceLT, Int.reduceToNat, add_mk, reduceCtorEq, tyF, c6', l6, hab10, add_block]
  have hv10 : Holds w4.heap.size 5 ((headed6 l k).map byteV) 40 (.slice (some ⟨g, 0, none⟩) 40 c6) w10 := ⟨_, _, rfl, by rw [hL1]; exact p6⟩
  refine ⟨fun w11 hp11 => ?_, ?_⟩
  · refine bslice (z := .int .u8 0) (cells := ((extra6 l).map byteV).toArray) Try.underlying23 byteE (by omega) (by have := bcells_list (z := .int .u8 0) ((extra6 l).map byteV) (by intro v hv; obtain ⟨b, _, rfl⟩ := List.mem_map.1 hv; rfl); rw [eX] at this ⊢; exact this) ?_
    simp (config := {maxSteps := 1000000}) only [↓zvD, zvU, ↓zqD, ↓up_apply, ↓hv_apply, ↓upO_some, ↓upO_none, ↓ev_tmp, ↓ev_const, ↓ev_func, ↓ev_global, init, Nat.reduceEqDiff, Nat.reduceAdd, Nat.reduceMul, Nat.reduceSub, ↓reduceIte, Int.reduceEq, Int.reduceNe, Nat.reduceLeDiff, one, Value.cells, Int.reduceLE, Int.reduceLT, Int.reduceToNat, add_mk, reduceCtorEq, tyF]
    exact ⟨Pre.of_more (more_alloc ..) (Nat.le_trans hs10 hp11.below.size), _, rfl, by have := Own.made w11 5 1 ((extra6 l).map byteV).toArray 8 rfl (by simp [maxLen]) (B := w4.heap.size) (Nat.le_trans hs10 hp11.below.size); simpa using this⟩
  rintro _ ⟨w11, hp11, A11, rfl, ho11⟩
  simp (config := {maxSteps := 1000000}) only [↓zvD, zvU, ↓zqD, ↓up_apply, ↓hv_apply, ↓upO_some, ↓upO_none, ↓ev_tmp, ↓ev_const, ↓ev_func, ↓ev_global, init, Nat.reduceEqDiff, Nat.reduceAdd, Nat.reduceMul, Nat.reduceSub, ↓reduceIte, Int.reduceEq, Int.reduceNe, Nat.reduceLeDiff, one, Value.cells, Int.reduceLE, Int.reduceLT, Int.reduceToNat, add_mk, reduceCtorEq, tyF, c6', l6, hab10, add_block]
  refine ⟨fun w12 hp12 ⟨A', e12, ho12⟩ => ?_, ?_⟩
  · cases e12
    refine app_holds (N := 8) (k := 40) (k' := 48) (m := 8) (news := (extra6 l).map byteV) Try.underlying23 byteE rfl (hv10.pre hp12) ho12.cs rfl (byteV_one _) (by decide) (by decide) (Nat.le_trans hs10 hp12.below.size) (by rw [hL1, hL2, List.map_append]) rfl (by decide) fun A13 c13 w13 q1 q2 => ?_
    simp (config := {maxSteps := 1000000}) only [↓zvD, zvU, ↓zqD, ↓up_apply, ↓hv_apply, ↓upO_some, ↓upO_none, ↓ev_tmp, ↓ev_const, ↓ev_func, ↓ev_global, init, Nat.reduceEqDiff, Nat.reduceAdd, Nat.reduceMul, Nat.reduceSub, ↓reduceIte, Int.reduceEq, Int.reduceNe, Nat.reduceLeDiff, one, Value.cells, Int.reduceLE, Int.reduceLT, Int.reduceToNat, add_mk, reduceCtorEq, tyF]
    exact ⟨q2, q1⟩
  rintro _ ⟨w12, hp12, ⟨A', e12, ho12⟩, A13, c13, rfl, ho13⟩
  simp (config := {maxSteps := 1000000}) only [↓zvD, zvU, ↓zqD, ↓up_apply, ↓hv_apply, ↓upO_some, ↓upO_none, ↓ev_tmp, ↓ev_const, ↓ev_func, ↓ev_global, init, Nat.reduceEqDiff, Nat.reduceAdd, Nat.reduceMul, Nat.reduceSub, ↓reduceIte, Int.reduceEq, Int.reduceNe, Nat.reduceLeDiff, one, Value.cells, Int.reduceLE, Int.reduceLT, Int.reduceToNat, add_mk, reduceCtorEq, tyF, h40c]
  refine ⟨g1, fun w13 hp13 hf13 => ?_⟩
  obtain ⟨⟨A'', e13, ho13'⟩, hf13⟩ := hf13
  have own13 := hf13.own.2
  rw [hL2] at own13
  have hm413 : More w4 w13 := hB10.trans hp13.below
  have hm13' := hm14.trans hm413
  have hs13 := hm413.size
  refine app_own (m := l.length - 40) (news := (l.drop 40).map byteV) Try.underlying23 byteE rfl (by omega) own13 (Cs.advB (hA.more hm13') hc) (by simp) (byteV_one _) (by simp only [maxLen]; omega) (by omega) hs13 ?_
  intro A14 c14 w14 ho14 hg14 _
  have hm414 : More w4 w14 := grown_below own13 hm413 hs13 hg14
  have hm14' := hm14.trans hm414
  rw [← List.map_append] at ho14
  have hLL : 48 + (l.length - 40) = (headed6 l k).length := by omega
  rw [hLL] at ho14 ⊢
  simp (config := {maxSteps := 1000000}) only [↓zvD, zvU, ↓up_apply, ↓hv_apply, ↓upO_some, ↓upO_none, ↓ev_tmp, ↓ev_const, ↓ev_func, ↓ev_global, init, Nat.reduceEqDiff, Nat.reduceAdd, Nat.reduceMul, Nat.reduceSub, ↓reduceIte, Int.reduceEq, Int.reduceNe, Nat.reduceLeDiff, one, Value.cells, Int.reduceLE, Int.reduceLT, Int.reduceToNat, add_mk, reduceCtorEq, tyF]
  refine call_ok Try.call27 (inet6_parse w14 A14 (headed6 l k) c14 ho14.cs ho14.le (by omega)) ?_
  rintro _ w15 ⟨A15, c15, rfl, ho15, hm15⟩
  have hres := headed6_parse hw (by omega) k hk
  simp (config := {maxSteps := 1000000}) only [↓zvD, zvU, ↓up_apply, ↓hv_apply, ↓upO_some, ↓upO_none, ↓ev_tmp, ↓ev_const, ↓ev_func, ↓ev_global, init, Nat.reduceEqDiff, Nat.reduceAdd, Nat.reduceMul, Nat.reduceSub, ↓reduceIte, Int.reduceEq, Int.reduceNe, Nat.reduceLeDiff, one, Value.cells, Int.reduceLE, Int.reduceLT, Int.reduceToNat, add_mk, reduceCtorEq, tyF, zerNet]
  refine net_var (parse6_fit _) fun w16 hm16 hb16 hs16 => ?_
  have hm16' := (hm14'.trans hm15).trans hm16
  rcases hres with h6 | ⟨h0, hsame⟩
  · simp (config := {maxSteps := 1000000}) only [↓zvD, zvU, ↓up_apply, ↓hv_apply, ↓upO_some, ↓upO_none, ↓ev_tmp, ↓ev_const, ↓ev_func, ↓ev_global, init, Nat.reduceEqDiff, Nat.reduceAdd, Nat.reduceMul, Nat.reduceSub, ↓reduceIte, Int.reduceEq, Int.reduceNe, Nat.reduceLeDiff, one, Value.cells, Int.reduceLE, Int.reduceLT, Int.reduceToNat, add_mk, reduceCtorEq, tyF, h6]
    exact hm16'
  · have hb3' := (((hb3.more hm4).more hm414).more hm15).more hm16
    have ho2' := ((((ho2.cs.more hm3).more hm4).more hm414).more hm15).more hm16
    rw [hsame] at ho15 hb16
    have r1 := hb3'.all_eq 35 (NetM.cells_len f1 _ _)
    have r2 := hb16.all_eq 35 (NetM.cells_len f1 _ _)
    simp (config := {maxSteps := 1000000}) only [↓zvD, zvU, ↓up_apply, ↓hv_apply, ↓upO_some, ↓upO_none, ↓ev_tmp, ↓ev_const, ↓ev_func, ↓ev_global, init, Nat.reduceEqDiff, Nat.reduceAdd, Nat.reduceMul, Nat.reduceSub, ↓reduceIte, Int.reduceEq, Int.reduceNe, Nat.reduceLeDiff, one, Value.cells, Int.reduceLE, Int.reduceLT, Int.reduceToNat, add_mk, reduceCtorEq, tyF, h0, r1, r2]
    refine call_ok Try.call28 (ref_same w16 _ _ A15 A2 c15 c2 f1 f1 (ho15.cs.more hm16) ho2') ?_
    rintro _ w17 ⟨rfl, hm17⟩
    rw [sameNet_self]
    simp (config := {maxSteps := 1000000}) only [↓zvD, zvU, ↓up_apply, ↓hv_apply, ↓upO_some, ↓upO_none, ↓ev_tmp, ↓ev_const, ↓ev_func, ↓ev_global, init, Nat.reduceEqDiff, Nat.reduceAdd, Nat.reduceMul, Nat.reduceSub, ↓reduceIte, Int.reduceEq, Int.reduceNe, Nat.reduceLeDiff, one, Value.cells, Int.reduceLE, Int.reduceLT, Int.reduceToNat, add_mk, reduceCtorEq, tyF]
    exact hm16'.trans hm17
end Go.Proofs.Ytejigcfdggkhgaa
