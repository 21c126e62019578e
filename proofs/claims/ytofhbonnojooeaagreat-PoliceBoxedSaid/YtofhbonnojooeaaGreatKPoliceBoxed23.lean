/-
  Texts that the law stands on, part 23.
-/
import Derived.Test.YtofhbonnojooeaaGreatKPoliceBoxed22
namespace Go.Proofs.YtofhbonnojooeaaGreat
open Go Go.RowKit Go.Proofs.RV
set_option linter.unusedSimpArgs false
set_option linter.unusedVariables false
set_option maxRecDepth 10000
set_option maxHeartbeats 4000000
theorem pref_inL {w : World} {k : Nat} {cs : List Value} (h : Lays Tryz.prog w k 37 cs) : ∃ p : PrefM, cs = p.cells ∧ p.addr.length = 7 := by
  have hl := (h.field Tryz.underlying37).1
  obtain ⟨_, f0⟩ := h.fieldAt Tryz.underlying37 0 4 0 rfl cells4
  obtain ⟨_, f1⟩ := h.fieldAt Tryz.underlying37 1 35 1 rfl cells35
  obtain ⟨b, e0⟩ := f0.bool Tryz.underlying4
  obtain ⟨l, l1, e1⟩ := f1.bytes Tryz.underlying35 Tryz.underlying5 cells5 cells35
  rw [cells37] at hl
  refine ⟨⟨b, l⟩, ?_, l1⟩
  have e : cs = [Value.bool b] ++ l.map byteV := by
    rw [← e0, ← e1]
    conv => lhs; rw [← List.drop_zero (l := cs), cut_at _ 0 1, cut_at _ (0 + 1) 7]
    rw [List.drop_eq_nil_of_le (i := 0 + 1 + 7) (by omega), List.append_nil]
  rw [e]
  rfl
structure PackM.In (x : PackM) : Prop where
  fl : x.flow.Fit
  pr : x.pref.addr.length = 7
theorem pack_in {w : World} {k : Nat} {cs : List Value} (h : Lays Tryz.prog w k 39 cs) : ∃ x : PackM, cs = x.cells ∧ x.In := by
  have hl := (h.field Tryz.underlying39).1
  obtain ⟨_, f0⟩ := h.fieldAt Tryz.underlying39 0 2 0 rfl cells2
  obtain ⟨_, f1⟩ := h.fieldAt Tryz.underlying39 1 34 1 rfl cells34
  obtain ⟨_, f2⟩ := h.fieldAt Tryz.underlying39 2 37 37 rfl cells37
  obtain ⟨_, f3⟩ := h.fieldAt Tryz.underlying39 3 3 45 rfl cells3
  obtain ⟨s, e0, _⟩ := f0.int Tryz.underlying2
  obtain ⟨f, e1, hf⟩ := flow_in (x := ((cs.drop 1).take 36).toArray) (by rw [List.toList_toArray]; exact f1)
  obtain ⟨p, e2, hp⟩ := pref_inL f2
  obtain ⟨n, e3, _⟩ := f3.int Tryz.underlying3
  rw [cells39] at hl
  have e1' : (cs.drop 1).take 36 = f.cells := congrArg Array.toList e1
  refine ⟨⟨s, f, p, n⟩, ?_, ⟨hf, hp⟩⟩
  have e : cs = [Value.int .i64 s] ++ (f.cells ++ (p.cells ++ [.int .i64 n])) := by
    rw [← e0, ← e1', ← e2, ← e3]
    conv => lhs; rw [← List.drop_zero (l := cs), cut_at _ 0 1, cut_at _ (0 + 1) 36, cut_at _ (0 + 1 + 36) 8, cut_at _ (0 + 1 + 36 + 8) 1]
    rw [List.drop_eq_nil_of_le (i := 0 + 1 + 36 + 8 + 1) (by omega), List.append_nil]
  rw [e]
  rfl
structure Act27 where
  kind : Int
  x : PackM
  now : Int
  d0 : Int
  d1 : Int
  key : List UInt8
  c : List Int
def Act27.cells (a : Act27) : List Value := .int .u8 a.kind :: (a.x.cells ++ (.int .i64 a.now :: (.int .u64 a.d0 :: (.int .u64 a.d1 :: (a.key.map byteV ++ ints a.c)))))
structure Act27.Fit (a : Act27) : Prop where
  k : 0 ≤ a.kind ∧ a.kind < 256
  x : a.x.In
  now : -9223372036854775808 ≤ a.now ∧ a.now ≤ 9223372036854775807
  d0 : 0 ≤ a.d0 ∧ a.d0 < 18446744073709551616
  d1 : 0 ≤ a.d1 ∧ a.d1 < 18446744073709551616
  key : a.key.length = 16
  c : a.c.length = 20
  ci : ∀ y ∈ a.c, inI y
theorem Act27.len {a : Act27} (h : a.Fit) : a.cells.length = 86 := by
  unfold Act27.cells
  simp only [List.length_cons, List.length_append, List.length_map, ints_len, h.key, h.c, pack_len h.x.fl h.x.pr]
theorem Act27.one (a : Act27) : ∀ u ∈ a.cells, u.oneCell' = true := by
  intro u hu
  simp only [Act27.cells, List.mem_cons, List.mem_append] at hu
  rcases hu with rfl | hu | rfl | rfl | rfl | hu | hu
  · rfl
  · exact PackM.one _ u hu
  · rfl
  · rfl
  · rfl
  · exact byteV_one _ u hu
  · exact ints_one _ u hu
theorem key_in {w : World} {k : Nat} {cs : List Value} (h : Lays Tryz.prog w k 24 cs) : ∃ l : List UInt8, cs = l.map byteV ∧ l.length = 16 := by
  obtain ⟨l, h1, h2⟩ := h.bytes Tryz.underlying24 Tryz.underlying5 cells5 cells24
  exact ⟨l, h2, h1⟩
theorem draws_in {w : World} {k : Nat} {cs : List Value} (h : Lays Tryz.prog w k 41 cs) : ∃ d0 d1 : Int, cs = [.int .u64 d0, .int .u64 d1] ∧ (0 ≤ d0 ∧ d0 < 18446744073709551616) ∧ 0 ≤ d1 ∧ d1 < 18446744073709551616 := by
  obtain ⟨l, h1, h2, h3⟩ := h.ints Tryz.underlying41 Tryz.underlying40 cells40 cells41
  match l, h1 with
  | [d0, d1], _ =>
    have r0 := h3 d0 (by simp)
    have r1 := h3 d1 (by simp)
    simp [IntKind.min, IntKind.max, IntKind.signed, IntKind.bits] at r0 r1
    exact ⟨d0, d1, h2, ⟨r0.1, by omega⟩, r1.1, by omega⟩
theorem acts27_in {w : World} {k : Nat} {cs : List Value} (h : Lays Tryz.prog w k 25 cs) :
    ∃ (A : Option Addr) (l : List Act27) (c : Nat), cs = [.slice A l.length c] ∧ l.length ≤ c ∧ Cs w A (l.flatMap Act27.cells) ∧ (∀ a ∈ l, a.cells.length = 86) ∧ ∀ a ∈ l, a.Fit := by
  refine h.rowOf Tryz.underlying25 cells43 (by omega) _ fun k cs' h' hl => ?_
  obtain ⟨_, f0⟩ := h'.fieldAt Tryz.underlying43 0 5 0 rfl cells5
  obtain ⟨_, f1⟩ := h'.fieldAt Tryz.underlying43 1 39 1 rfl cells39
  obtain ⟨_, f2⟩ := h'.fieldAt Tryz.underlying43 2 2 47 rfl cells2
  obtain ⟨_, f3⟩ := h'.fieldAt Tryz.underlying43 3 41 48 rfl cells41
  obtain ⟨_, f4⟩ := h'.fieldAt Tryz.underlying43 4 24 50 rfl cells24
  obtain ⟨_, f5⟩ := h'.fieldAt Tryz.underlying43 5 23 66 rfl cells23
  obtain ⟨x, e0, r0⟩ := f0.int Tryz.underlying5
  obtain ⟨p, e1, hp⟩ := pack_in f1
  obtain ⟨y, e2, r2⟩ := f2.int Tryz.underlying2
  obtain ⟨d0, d1, e3, hd0, hd1⟩ := draws_in f3
  obtain ⟨ky, e4, hky⟩ := key_in f4
  obtain ⟨cf, e5, hcf, hci⟩ := cfg_in (x := ((cs'.drop 66).take 20).toArray) (by rw [List.toList_toArray]; exact f5)
  have e5' : (cs'.drop 66).take 20 = ints cf := congrArg Array.toList e5
  refine ⟨⟨x, p, y, d0, d1, ky, cf⟩, ?_, ?_⟩
  · have e : cs' = [Value.int .u8 x] ++ (p.cells ++ ([.int .i64 y] ++ ([.int .u64 d0, .int .u64 d1] ++ (ky.map byteV ++ ints cf)))) := by
      rw [← e0, ← e1, ← e2, ← e3, ← e4, ← e5']
      conv => lhs; rw [← List.drop_zero (l := cs'), cut_at _ 0 1, cut_at _ (0 + 1) 46, cut_at _ (0 + 1 + 46) 1, cut_at _ (0 + 1 + 46 + 1) 2, cut_at _ (0 + 1 + 46 + 1 + 2) 16, cut_at _ (0 + 1 + 46 + 1 + 2 + 16) 20]
      rw [List.drop_eq_nil_of_le (i := 0 + 1 + 46 + 1 + 2 + 16 + 20) (by omega), List.append_nil]
    rw [e]
    rfl
  · simp [IntKind.min, IntKind.max, IntKind.signed, IntKind.bits] at r0 r2
    exact ⟨⟨r0.1, by show x < 256; omega⟩, hp, ⟨r2.1, by show y ≤ 9223372036854775807; omega⟩, hd0, hd1, hky, hcf, hci⟩
theorem police_new_bad (w : World) (c : List Int) (key : List UInt8) (hc : c.length = 20) (hk : key.length = 16) (hr : ¬ rightM c) : Ret Tryz.prog 14 #[.agg (ints c).toArray, .agg (key.map byteV).toArray] w fun v w' => v = .tuple #[.pointer none, .int .i64 5] ∧ More w w' := by
  refine ret_of Tryz.func14 rfl (by kernel_rfl) (Nat.le_of_ble_eq_true (by kernel_rfl)) ?_
  simp -implicitDefEqProofs (maxSteps := 1000000) only [↓zvN, zvU, ↓zvE, zvM, init, one, Value.cells, simprocAttr, tyF]
  have hm1 := more_alloc w (.cells (ints c).toArray 23)
  have hC1 := Blk.new w 23 (ints c).toArray
  obtain ⟨w1, hw1⟩ : ∃ w1, w.alloc (.cells (ints c).toArray 23) = w1 := ⟨_, rfl⟩
  rw [hw1] at hm1 hC1 ⊢
  clear hw1
  rw [List.toList_toArray] at hC1
  obtain ⟨a, ha⟩ : ∃ a, w.heap.size = a := ⟨_, rfl⟩
  rw [ha] at hC1 ⊢
  have hm2 := more_alloc w1 (.cells (key.map byteV).toArray 24)
  obtain ⟨w2, hw2⟩ : ∃ w2, w1.alloc (.cells (key.map byteV).toArray 24) = w2 := ⟨_, rfl⟩
  rw [hw2] at hm2 ⊢
  clear hw2
  have cl := (hC1.more hm2).all_eq 20 (by rw [ints_len, hc])
  simp -implicitDefEqProofs (maxSteps := 1000000) only [↓zvN, zvU, ↓zvE, zvM, init, one, Value.cells, simprocAttr, tyF, cl]
  refine call_ok Tryz.call46 (config_right w2 c hc) ?_
  rintro _ w3 ⟨rfl, hm3⟩
  rw [decide_eq_false hr]
  simp -implicitDefEqProofs (maxSteps := 1000000) only [↓zvN, zvU, ↓zvE, zvM, init, one, Value.cells, simprocAttr, tyF]
  exact ⟨rfl, (hm1.trans hm2).trans hm3⟩
theorem whereM_one {g : GensM} (hb : g.buckets = 1) (ho : g.old = 0) (hm : g.moving = false) (f : FlowM) : g.whereM f = (0, 0) := by
  have hr := fallM_range (g.key 0) f 0 1 (by decide)
  have hc : g.classM 0 f = 0 := by unfold GensM.classM; rw [hb]; omega
  unfold GensM.whereM
  rw [if_pos (.inl hm), ho, hc]
theorem first_not_heavy {r : PolR} (hsl : r.sl = []) (hwn : r.wn = 0) (hcap : 1 ≤ r.cap) {x : PackM} (hx : 1 ≤ x.len ∧ x.len ≤ 9216) {now : Int} (hth : 9216 < r.c.getD 16 0) : r.heavy x now = false := by
  have h0 : (winAt now (r.c.getD 15 0) r.wn r.sl r.tot).2.1 = [] := by
    unfold winAt
    split
    · rfl
    · exact hsl
  have hs : seatS r.cap [] x.pref = ([⟨x.pref, 0, 0⟩], 0) := by
    unfold seatS
    rw [if_neg (by show ¬ (0 ≤ (-1 : Int)); decide), if_pos (by show 0 < r.cap; omega)]
    rfl
  unfold PolR.heavy heavyM slotA
  rw [h0, hs]
  have : addM 0 (countM x.len) = x.len := by
    have h1 : countM x.len = x.len := by unfold countM; omega
    rw [h1]
    unfold addM countM
    omega
  simp only [List.getD_cons_zero, this]
  rw [decide_eq_false]
  omega
theorem takeT_c {r : PolR} (h : PolC r) (x : PackM) (now : Int) : PolC (r.takeT x now) := ⟨h.m, h.rm, h.cp⟩
theorem PolC.of {r r' : PolR} (h : PolC r) (h1 : r'.c = r.c) (h2 : r'.m = r.m) (h3 : r'.room = r.room) (h4 : r'.cap = r.cap) : PolC r' := ⟨by rw [h2, h1]; exact h.m, by rw [h3, h1]; exact h.rm, by rw [h4, h1]; exact h.cp⟩
theorem leave_c {r : PolR} (h : PolC r) (c : Nat) (cl : List PackM) (k : Nat) (pk : PackM) : PolC (r.leave c cl k pk) := by
  obtain ⟨f1, f2, f3, f4, f5, f6, f7, f8, f9⟩ := leave_f r c cl k pk
  refine h.of f1 f4 ?_ ?_
  · unfold PolR.leave; split <;> simp [PolR.sleep]
  · unfold PolR.leave; split <;> simp [PolR.sleep]
theorem wake_c (r : PolR) (c : Nat) : (r.wake c).room = r.room ∧ (r.wake c).cap = r.cap := by unfold PolR.wake; split <;> exact ⟨rfl, rfl⟩
theorem join_c {r : PolR} (h : PolC r) (c : Nat) (x : PackM) : PolC (r.join c x) := by
  unfold PolR.join
  split
  · obtain ⟨f1, f2, f3, f4, f5, f6, f7, f8, f9⟩ := wake_f (({ r with cls := r.cls.set c (r.cls.getD c [] ++ [x]), qs := r.qs.set c (r.qs.getD c 0 + x.len) } : PolR).count c x.flow (putF x.len)) c
    obtain ⟨g1, g2⟩ := wake_c (({ r with cls := r.cls.set c (r.cls.getD c [] ++ [x]), qs := r.qs.set c (r.qs.getD c 0 + x.len) } : PolR).count c x.flow (putF x.len)) c
    exact h.of (by rw [f1]; simp) (by rw [f4]; simp) (by rw [g1]; simp) (by rw [g2]; simp)
  · exact h
theorem bump_c {r : PolR} (h : PolC r) (gen : Nat) (xs : List Int) (φ : BinM → BinM) : PolC (r.bump gen xs φ) := h.of (by simp) (by simp) (by simp) (by simp)
theorem arrive_c {r : PolR} (h : PolC r) (x : PackM) (now d0 d1 : Int) (q : Nat) : PolC (r.arrive x now d0 d1 q).r := by
  have h1 : PolC (r.asked x now q).r := by
    have h0 : PolC (r.next.win x now) := h.of rfl rfl rfl rfl
    unfold PolR.asked PolR.ask
    split
    · split
      · exact h0.of rfl rfl rfl rfl
      · exact h0.of rfl rfl rfl rfl
    · exact h0
  have h2 : PolC ((r.asked x now q).r.sweep now) := h1.of rfl rfl rfl rfl
  show PolC ((r.asked x now q).r.road (r.named x) now d0 d1).r
  unfold PolR.road
  split
  · show PolC (((r.asked x now q).r.sweep now).boxed (r.named x) now)
    unfold PolR.boxed
    split
    · exact join_c (takeT_c h2 _ _) _ _
    · exact takeT_c h2 _ _
  · show PolC (((r.asked x now q).r.sweep now).free (r.named x) now d0 d1).r
    unfold PolR.free
    split
    · exact leave_c h2 _ _ _ _
    · split
      · exact bump_c h2 _ _ _
      · exact join_c (bump_c h2 _ _ _) _ _
theorem eachM_all {φ : BinM → BinM} {k : BlueK} {xs : List Int} {P : BinM → Prop} (hφ : ∀ y, P y → P (φ y)) {bs : List BinM} (hb : ∀ y ∈ bs, P y) : ∀ i, ∀ y ∈ eachM φ k xs i bs, P y
  | 0 => hb
  | i + 1 => by
    have ih := eachM_all (k := k) (xs := xs) hφ hb i
    intro y hy
    rw [eachM_succ] at hy
    by_cases hlt : binAt k xs i < (eachM φ k xs i bs).length
    · rw [modify_set (List.getElem?_eq_getElem hlt)] at hy
      rcases List.mem_or_eq_of_mem_set hy with h1 | h1
      · exact ih y h1
      · rw [h1]; exact hφ _ (ih _ (List.getElem_mem hlt))
    · rw [List.modify_eq_self (by omega)] at hy
      exact ih y hy
theorem mark_zero {k : BlueK} {xs : List Int} {bs : List BinM} (hb : ∀ y ∈ bs, y.p = 0) : ∀ i, 1 ≤ i → markM k xs bs i = 0
  | 0, h => by omega
  | i + 1, _ => by
    rw [markM_succ]
    have hp : (bs.getD (binAt k xs i) ⟨0, 0, 0⟩).p = 0 := by
      rw [List.getD_eq_getElem?_getD]
      cases h : bs[binAt k xs i]? with
      | none => rfl
      | some y => exact hb y (List.mem_of_getElem? h)
    rw [hp]
    by_cases h1 : 1 ≤ i
    · rw [mark_zero hb i h1]; decide
    · obtain rfl : i = 0 := by omega
      show min (65536 : Int) 0 = 0
      decide
def little27C : List Int := [1, 1, 1, 1, 0, 0, 1, 1, 9216, 100, 0, 1, 1, 0, 0, 1, 1099511627776, 1, 0, 1]
theorem right_of {c : List Int} (h : (List.range 20).all (fun k => decide (leastC.getD k 0 ≤ c.getD k 0 ∧ c.getD k 0 ≤ mostC.getD k 0)) = true) : rightM c := by
  intro k hk
  have := List.all_eq_true.1 h k (List.mem_range.2 hk)
  simpa using this
theorem little27_right : rightM little27C := right_of (by decide)
theorem little27 (w : World) : Ret Tryz.prog 45 #[] w fun v w' => v = .agg (ints little27C).toArray ∧ More w w' := by
  refine ret_of Tryz.func45 rfl (by kernel_rfl) (Nat.le_of_ble_eq_true (by kernel_rfl)) ?_
  have hm1 := more_alloc w (.cells (ints (List.replicate 20 0)).toArray 23)
  have hb1 := Blk.new w 23 (ints (List.replicate 20 0)).toArray
  simp -implicitDefEqProofs (maxSteps := 1000000) only [↓zvN, zvU, ↓up_apply, ↓hv_apply, ↓upO_some, ↓upO_none, ↓ev_tmp, ↓ev_const, ↓ev_func, ↓ev_global, init, Nat.reduceEqDiff, Nat.reduceAdd, Nat.reduceMul, Nat.reduceSub, ↓reduceIte, Int.reduceEq, Int.reduceNe, Nat.reduceLeDiff, one, Value.cells, Int.reduceLE, Int.reduceLT, Int.reduceToNat, add_mk, reduceCtorEq, List.mem_range'_1, true_and, and_true, and_false, false_and, Nat.reduceLT, Nat.reduceLeDiff, tyF, zerCfg]
  obtain ⟨w1, hw1⟩ : ∃ w1, w.alloc (.cells (ints (List.replicate 20 0)).toArray 23) = w1 := ⟨_, rfl⟩
  rw [hw1] at hm1 hb1 ⊢
  clear hw1
  have b1 := build_of (P := Tryz.prog) (T := 23) (parts := #[(0, .int .i64 1), (1, .int .i64 1), (2, .int .i64 1), (3, .int .i64 1), (6, .int .i64 1), (7, .int .i64 1), (8, .int .i64 9216), (9, .int .i64 100), (11, .int .i64 1), (12, .int .i64 1), (15, .int .i64 1), (16, .int .i64 1099511627776), (17, .int .i64 1), (19, .int .i64 1)]) (ints little27C) (by kernel_rfl) zerCfg (by kernel_rfl) w1
  rw [b1]
  simp -implicitDefEqProofs (maxSteps := 1000000) only [↓zvN, zvU, ↓up_apply, ↓hv_apply, ↓upO_some, ↓upO_none, ↓ev_tmp, ↓ev_const, ↓ev_func, ↓ev_global, init, Nat.reduceEqDiff, Nat.reduceAdd, Nat.reduceMul, Nat.reduceSub, ↓reduceIte, Int.reduceEq, Int.reduceNe, Nat.reduceLeDiff, one, Value.cells, Int.reduceLE, Int.reduceLT, Int.reduceToNat, add_mk, reduceCtorEq, List.mem_range'_1, true_and, and_true, and_false, false_and, Nat.reduceLT, Nat.reduceLeDiff, tyF]
  refine st_all hb1 rfl rfl (by simpa using ints_one little27C) fun w2 k1 k2 => ?_
  rw [s2_undef]
  rw [List.toList_toArray] at k2
  have l4 := k2.all_eq 20 rfl
  simp -implicitDefEqProofs (maxSteps := 1000000) only [↓zvN, zvU, ↓up_apply, ↓hv_apply, ↓upO_some, ↓upO_none, ↓ev_tmp, ↓ev_const, ↓ev_func, ↓ev_global, init, Nat.reduceEqDiff, Nat.reduceAdd, Nat.reduceMul, Nat.reduceSub, ↓reduceIte, Int.reduceEq, Int.reduceNe, Nat.reduceLeDiff, one, Value.cells, Int.reduceLE, Int.reduceLT, Int.reduceToNat, add_mk, reduceCtorEq, List.mem_range'_1, true_and, and_true, and_false, false_and, Nat.reduceLT, Nat.reduceLeDiff, tyF, l4]
  exact ⟨rfl, k1.below hm1 (Nat.le_refl _)⟩
theorem zerKey27 : zer Tryz.prog 24 = some (.agg ((noBytes 16).map byteV).toArray) := by rw [zer24]; rfl
theorem zerDraws27 : zer Tryz.prog 41 = some (.agg [Value.int .u64 0, .int .u64 0].toArray) := by rw [zer41]
theorem key27_build (w0 : World) (K : Value → Prop) : pureP Tryz.prog (Instr.build 24 #[]) K = K (.agg ((noBytes 16).map byteV).toArray) :=
  build_arrE (s := 1) Tryz.underlying24 cells5 (by decide) zerKey27 rfl w0 K
theorem draws27_build (w0 : World) (K : Value → Prop) : pureP Tryz.prog (Instr.build 41 #[]) K = K (.agg #[Value.int .u64 0, .int .u64 0]) :=
  build_arrE (s := 1) (out := [Value.int .u64 0, .int .u64 0]) Tryz.underlying41 cells40 (by decide) zerDraws27 rfl w0 K
theorem pack_len_build (n : Int) (w0 : World) (K : Value → Prop) : pureP Tryz.prog (Instr.build 39 #[(3, .int .i64 n)]) K = K (.agg (PackM.mk 0 flowZ prefZ n).cells.toArray) :=
  build_of (PackM.mk 0 flowZ prefZ n).cells (by kernel_rfl) zerPack (by kernel_rfl) w0 K
theorem inB_nil (now : Int) (p : PrefM) : inB now [] p = false := by unfold inB; rw [decide_eq_false]; simp [sweepL, keysM]
theorem arrive_first {c : List Int} {key : List UInt8} (hc : c.length = 20) (hk : key.length = 16) (hr : rightM c) (h0 : c.getD 0 0 = 1) (h5 : c.getD 5 0 = 0) (h12 : 1 ≤ c.getD 12 0) (h16 : 9216 < c.getD 16 0) {x : PackM} (hx : 1 ≤ x.len ∧ x.len ≤ 9216) (h9 : x.len ≤ c.getD 9 0) (now : Int) (q : Nat) :
    ((polR0 c key).arrive x now 0 0 q).no = 0 ∧ ((polR0 c key).arrive x now 0 0 q).cl = 0 ∧ ((polR0 c key).arrive x now 0 0 q).vic = -1 ∧ cntM ((polR0 c key).arrive x now 0 0 q).r.cls = 1 := by
  have r1 : 1 ≤ c.getD 1 0 ∧ c.getD 1 0 ≤ 4096 := hr 1 (by decide)
  have r2 : 1 ≤ c.getD 2 0 ∧ c.getD 2 0 ≤ 4 := hr 2 (by decide)
  have r6 : 1 ≤ c.getD 6 0 ∧ c.getD 6 0 ≤ 64 := hr 6 (by decide)
  have r10 : 0 ≤ c.getD 10 0 ∧ c.getD 10 0 ≤ 1073741824 := hr 10 (by decide)
  have r13 : 0 ≤ c.getD 13 0 ∧ c.getD 13 0 ≤ 1073741824 := hr 13 (by decide)
  have ek : (2 * c.getD 0 0 + 1).toNat = 3 := by rw [h0]; rfl
  obtain ⟨r, hrr⟩ : ∃ r, polR0 c key = r := ⟨_, rfl⟩
  have fc : r.c = c := by rw [← hrr]; rfl
  have fL : r.L = [] := by rw [← hrr]; rfl
  have fcls : r.cls = [[], [], []] := by rw [← hrr]; unfold polR0; simp only [ek]; rfl
  have fqs : r.qs = [0, 0, 0] := by rw [← hrr]; unfold polR0; simp only [ek]; rfl
  have fm : r.m = (c.getD 1 0).toNat := by rw [← hrr]; rfl
  have fg : r.g = ⟨c.getD 0 0, key, noBytes 16, 0, false, 0, 0⟩ := by rw [← hrr]; rfl
  have fb0 : ∀ y ∈ r.b0, y = ⟨0, 0, 0⟩ := by rw [← hrr]; intro y hy; exact List.eq_of_mem_replicate hy
  have hheavy : r.next.heavy x now = false := first_not_heavy (by rw [← hrr]; rfl) (by rw [← hrr]; rfl) (by rw [← hrr]; show 1 ≤ (c.getD 6 0).toNat; omega) hx (by show 9216 < r.c.getD 16 0; rw [fc]; exact h16)
  obtain ⟨r1', hr1'⟩ : ∃ r1', r.next.win x now = r1' := ⟨_, rfl⟩
  have hask : r.asked x now q = ⟨r1', false, false⟩ := by unfold PolR.asked PolR.ask; rw [hheavy, if_neg (by decide), hr1']
  obtain ⟨r2', hr2'⟩ : ∃ r2', r1'.sweep now = r2' := ⟨_, rfl⟩
  have gc : r2'.c = c := by rw [← hr2', ← hr1', ← fc]; rfl
  have gcls : r2'.cls = [[], [], []] := by rw [← hr2', ← hr1', ← fcls]; rfl
  have gqs : r2'.qs = [0, 0, 0] := by rw [← hr2', ← hr1', ← fqs]; rfl
  have gm : r2'.m = (c.getD 1 0).toNat := by rw [← hr2', ← hr1', ← fm]; rfl
  have gg : r2'.g = ⟨c.getD 0 0, key, noBytes 16, 0, false, 0, 0⟩ := by rw [← hr2', ← hr1', ← fg]; rfl
  have gb0 : ∀ y ∈ r2'.b0, y = ⟨0, 0, 0⟩ := by rw [← hr2', ← hr1']; exact fb0
  have gtl : r2'.tl = r.tl := by rw [← hr2', ← hr1']; rfl
  have hL1 : r1'.L = [] := by rw [← hr1']; exact fL
  obtain ⟨X, hX⟩ : ∃ X, r.named x = X := ⟨_, rfl⟩
  have hXl : X.len = x.len := by rw [← hX]; rfl
  have hXf : X.flow = x.flow := by rw [← hX]; rfl
  have hwh : ∀ fl, r2'.g.whereM fl = (0, 0) := fun fl => whereM_one (by rw [gg]; exact h0) (by rw [gg]) (by rw [gg]) fl
  have hgen : ∀ fl, r2'.gen fl = 0 := fun fl => by unfold PolR.gen; rw [hwh]; rfl
  have hcla : ∀ fl, r2'.cla fl = 0 := fun fl => by unfold PolR.cla; rw [hwh]; rfl
  have hmet : r2'.met X 0 = none := by
    unfold PolR.met
    rw [hcla, gcls, gc, if_neg]
    show ¬ c.getD 12 0 ≤ bytesM []
    have : bytesM [] = 0 := rfl
    omega
  have htch : r2'.touched X.flow now = r2'.bump 0 (r2'.bins 0 X.flow) (touchM (blueK c) now) := by unfold PolR.touched; rw [hgen, gc]
  have tc : (r2'.touched X.flow now).c = c := by rw [htch]; simp [gc]
  have tg : (r2'.touched X.flow now).g = r2'.g := by rw [htch]; simp
  have tcls : (r2'.touched X.flow now).cls = [[], [], []] := by rw [htch]; simp [gcls]
  have tqs : (r2'.touched X.flow now).qs = [0, 0, 0] := by rw [htch]; simp [gqs]
  have tm : (r2'.touched X.flow now).m = (c.getD 1 0).toNat := by rw [htch]; simp [gm]
  have ttl : (r2'.touched X.flow now).tl = r2'.tl := by rw [htch]; simp
  have hmark : (r2'.touched X.flow now).mark X.flow = 0 := by
    unfold PolR.mark
    have e1 : (r2'.touched X.flow now).gen X.flow = 0 := by have := hgen X.flow; unfold PolR.gen at this ⊢; rw [tg]; exact this
    rw [e1]
    refine mark_zero ?_ _ (by rw [tc]; show 1 ≤ (c.getD 2 0).toNat; omega)
    rw [htch]
    intro y hy
    have hy' : y ∈ eachM (touchM (blueK c) now) (blueK r2'.c) (r2'.bins 0 X.flow) (blueK r2'.c).levels r2'.b0 := hy
    have := eachM_all (φ := touchM (blueK c) now) (P := fun y => y.p = 0 ∧ y.bytes = 0) (fun z hz => by
      obtain ⟨z1, z2⟩ := hz
      have hd : (blueK c).down = 0 := h5
      have ht : 0 ≤ (blueK c).target := r13.1
      unfold touchM
      split
      · exact ⟨z1, z2⟩
      · rw [if_neg (by rw [z2]; omega)]
        exact ⟨by show max (z.p - (blueK c).down) 0 = 0; rw [z1, hd]; decide, z2⟩) (bs := r2'.b0) (fun z hz => by rw [gb0 z hz]; exact ⟨rfl, rfl⟩) _ y hy'
    exact this.1
  have hjn : (r2'.touched X.flow now).joinNo 0 X = 0 := by
    unfold PolR.joinNo
    rw [tqs, tc, tcls, tm, hXl]
    have hf : fitsM (c.getD 9 0) (c.getD 10 0) [0, 0, 0] (([0, 0, 0] : List Int).getD 0 0) x.len = true := by
      unfold fitsM
      rw [decide_eq_true_iff]
      show sumOver (c.getD 9 0) [0, 0, 0] + overM (c.getD 9 0) (0 + x.len) - overM (c.getD 9 0) 0 ≤ c.getD 10 0
      unfold sumOver overM
      simp only [List.map_cons, List.map_nil, List.sum_cons, List.sum_nil]
      omega
    rw [if_pos hf, if_neg]
    show ¬ 0 = (c.getD 1 0).toNat
    omega
  have hfree : r2'.free X now 0 0 = ⟨(r2'.touched X.flow now).join 0 X, 0, 0, -1⟩ := by
    unfold PolR.free
    rw [hmet]
    simp only
    rw [hmark, if_neg (by decide), hcla, hjn]
    rfl
  have hroad : r1'.road X now 0 0 = ⟨(r2'.touched X.flow now).join 0 X, 0, 0, -1⟩ := by
    unfold PolR.road
    rw [hL1, inB_nil, if_neg (by decide), hr2', hfree]
  have harr : r.arrive x now 0 0 q = ⟨(r2'.touched X.flow now).join 0 X, 0, 0, -1, false, false⟩ := by
    unfold PolR.arrive
    rw [hask, hX]
    dsimp only
    rw [hroad]
    rfl
  rw [hrr, harr]
  refine ⟨rfl, rfl, rfl, ?_⟩
  show cntM ((r2'.touched X.flow now).join 0 X).cls = 1
  rw [join_yes (cl := []) (by rw [tcls]; rfl) hjn, (into_f _ _ _ _).2.2.1, tcls]
  rfl
theorem awake27 (w : World) : Ret Tryz.prog 12 #[] w fun v w' => v = .bool true ∧ More w w' := by
  refine ret_of Tryz.func12 rfl (by kernel_rfl) (Nat.le_of_ble_eq_true (by kernel_rfl)) ?_
  simp -implicitDefEqProofs (maxSteps := 1000000) only [↓zvN, zvU, ↓up_apply, ↓hv_apply, ↓upO_some, ↓upO_none, ↓ev_tmp, ↓ev_const, ↓ev_func, ↓ev_global, init, Nat.reduceEqDiff, Nat.reduceAdd, Nat.reduceMul, Nat.reduceSub, ↓reduceIte, Int.reduceEq, Int.reduceNe, Nat.reduceLeDiff, one, Value.cells, Int.reduceLE, Int.reduceLT, Int.reduceToNat, add_mk, reduceCtorEq, List.mem_range'_1, true_and, and_true, and_false, false_and, Nat.reduceLT, Nat.reduceLeDiff, tyF]
  refine call_ok Tryz.call45 (little27 w) ?_
  rintro _ w1 ⟨rfl, hm1⟩
  simp -implicitDefEqProofs (maxSteps := 1000000) only [↓zvN, zvU, ↓up_apply, ↓hv_apply, ↓upO_some, ↓upO_none, ↓ev_tmp, ↓ev_const, ↓ev_func, ↓ev_global, init, Nat.reduceEqDiff, Nat.reduceAdd, Nat.reduceMul, Nat.reduceSub, ↓reduceIte, Int.reduceEq, Int.reduceNe, Nat.reduceLeDiff, one, Value.cells, Int.reduceLE, Int.reduceLT, Int.reduceToNat, add_mk, reduceCtorEq, List.mem_range'_1, true_and, and_true, and_false, false_and, Nat.reduceLT, Nat.reduceLeDiff, tyF, key27_build w1]
  refine call_ok Tryz.call14 (police_new w1 little27C (noBytes 16) rfl rfl little27_right) ?_
  rintro _ w2 ⟨hm2, p, rfl, hP⟩
  obtain ⟨a, f, rfl, hM, hown⟩ := hP.mem rfl rfl little27_right
  have hI := polR0_ok (c := little27C) (key := noBytes 16) rfl rfl little27_right
  have hC := polR0_c (c := little27C) (key := noBytes 16) little27_right
  have hx : (PackM.mk 0 flowZ prefZ 60).Ok := ⟨flowZ_fit, rfl, by decide, by decide⟩
  simp -implicitDefEqProofs (maxSteps := 1000000) only [↓zvN, zvU, ↓up_apply, ↓hv_apply, ↓upO_some, ↓upO_none, ↓ev_tmp, ↓ev_const, ↓ev_func, ↓ev_global, init, Nat.reduceEqDiff, Nat.reduceAdd, Nat.reduceMul, Nat.reduceSub, ↓reduceIte, Int.reduceEq, Int.reduceNe, Nat.reduceLeDiff, one, Value.cells, Int.reduceLE, Int.reduceLT, Int.reduceToNat, add_mk, reduceCtorEq, List.mem_range'_1, true_and, and_true, and_false, false_and, Nat.reduceLT, Nat.reduceLeDiff, tyF, pack_len_build 60 w2, draws27_build w2]
  refine call_ok Tryz.call15 (police_arrive w2 a f _ hM hI ⟨0, flowZ, prefZ, 60⟩ hx 0 0 0 (by decide) (by decide) (by decide) (by decide)) ?_
  rintro _ w3 ⟨q, f', rfl, h3, F3⟩
  obtain ⟨e1, e2, e3, e4⟩ := arrive_first (c := little27C) (key := noBytes 16) rfl rfl little27_right rfl rfl (by decide) (by decide) (x := ⟨0, flowZ, prefZ, 60⟩) (by decide) (by decide) 0 q
  have hI3 := hI.arrive hx 0 0 0 q hM.b0.ok (by decide)
  have hm13 : More w1 w3 := F3.mod.more hm2 (fun k hk h => by have := hown k h; omega)
  rw [e1, e2, e3]
  have hC3 : PolC ((polR0 little27C (noBytes 16)).arrive ⟨0, flowZ, prefZ, 60⟩ 0 0 0 q).r := arrive_c hC _ _ _ _ _
  obtain ⟨r3, hr3⟩ : ∃ r3, ((polR0 little27C (noBytes 16)).arrive ⟨0, flowZ, prefZ, 60⟩ 0 0 0 q).r = r3 := ⟨_, rfl⟩
  rw [hr3] at e4 h3 hI3 hC3
  obtain ⟨b1, hb1⟩ : ∃ b1, ((polR0 little27C (noBytes 16)).arrive ⟨0, flowZ, prefZ, 60⟩ 0 0 0 q).boxed = b1 := ⟨_, rfl⟩
  obtain ⟨b2, hb2⟩ : ∃ b2, ((polR0 little27C (noBytes 16)).arrive ⟨0, flowZ, prefZ, 60⟩ 0 0 0 q).full = b2 := ⟨_, rfl⟩
  rw [hb1, hb2]
  simp -implicitDefEqProofs (maxSteps := 1000000) only [↓zvN, zvU, ↓up_apply, ↓hv_apply, ↓upO_some, ↓upO_none, ↓ev_tmp, ↓ev_const, ↓ev_func, ↓ev_global, init, Nat.reduceEqDiff, Nat.reduceAdd, Nat.reduceMul, Nat.reduceSub, ↓reduceIte, Int.reduceEq, Int.reduceNe, Nat.reduceLeDiff, one, Value.cells, Int.reduceLE, Int.reduceLT, Int.reduceToNat, add_mk, reduceCtorEq, List.mem_range'_1, true_and, and_true, and_false, false_and, Nat.reduceLT, Nat.reduceLeDiff, tyF, zerVd]
  have hm4 := more_alloc w3 (.cells (verC 0 0 0 0 false false).toArray 46)
  have hb4 := Blk.new w3 46 (verC 0 0 0 0 false false).toArray
  obtain ⟨w4, hw4⟩ : ∃ w4, w3.alloc (.cells (verC 0 0 0 0 false false).toArray 46) = w4 := ⟨_, rfl⟩
  rw [hw4] at hm4 hb4 ⊢
  clear hw4
  rw [List.toList_toArray] at hb4
  obtain ⟨y, hy⟩ : ∃ y, w3.heap.size = y := ⟨_, rfl⟩
  have hfy : ¬ own f' y := h3.new_free (by omega)
  rw [hy] at hb4 ⊢
  refine st_all hb4 rfl rfl (by rw [List.toList_toArray]; exact ver_one _ _ _ _ _ _) fun w5 i5 k5 => ?_
  rw [s2_undef]
  rw [List.toList_toArray] at k5
  have h5 := (h3.more hm4).keep (S := fun k => k = y) (Mod.of_wr i5 rfl) (fun k hk => by subst hk; exact Classical.byContradiction hfy)
  have v1 : w5.cell? ⟨y, 1, none⟩ = some (.int .i64 0) := by rw [k5.cell]; rfl
  have v2 : w5.cell? ⟨y, 2, none⟩ = some (.int .i64 0) := by rw [k5.cell]; rfl
  have v3 : w5.cell? ⟨y, 3, none⟩ = some (.int .i64 (-1)) := by rw [k5.cell]; rfl
  simp -implicitDefEqProofs (maxSteps := 1000000) only [↓zvN, zvU, ↓up_apply, ↓hv_apply, ↓upO_some, ↓upO_none, ↓ev_tmp, ↓ev_const, ↓ev_func, ↓ev_global, init, Nat.reduceEqDiff, Nat.reduceAdd, Nat.reduceMul, Nat.reduceSub, ↓reduceIte, Int.reduceEq, Int.reduceNe, Nat.reduceLeDiff, one, Value.cells, Int.reduceLE, Int.reduceLT, Int.reduceToNat, add_mk, reduceCtorEq, List.mem_range'_1, true_and, and_true, and_false, false_and, Nat.reduceLT, Nat.reduceLeDiff, tyF, v1, v2, v3]
  refine call_ok Tryz.call18 (police_waits w5 a f' r3 h5 hI3 hC3) ?_
  rintro _ w6 ⟨rfl, hm6⟩
  rw [e4]
  have one1 : ((1 : Nat) : Int) = 1 := rfl
  simp -implicitDefEqProofs (maxSteps := 1000000) only [↓zvN, zvU, ↓up_apply, ↓hv_apply, ↓upO_some, ↓upO_none, ↓ev_tmp, ↓ev_const, ↓ev_func, ↓ev_global, init, Nat.reduceEqDiff, Nat.reduceAdd, Nat.reduceMul, Nat.reduceSub, ↓reduceIte, Int.reduceEq, Int.reduceNe, Nat.reduceLeDiff, one, Value.cells, Int.reduceLE, Int.reduceLT, Int.reduceToNat, add_mk, reduceCtorEq, List.mem_range'_1, true_and, and_true, and_false, false_and, Nat.reduceLT, Nat.reduceLeDiff, tyF, one1]
  refine ⟨rfl, hm1.trans (Below.trans (i5.below (hm13.trans hm4) (by have := hm13.size; omega)) (Below.mono hm6 (by have := hm13.size; have := hm4.size; have := i5.size; omega)))⟩
theorem few27 (w : World) (c : List Int) (hc : c.length = 20) (A : Option Addr) (n k : Nat) : Ret Tryz.prog 13 #[.agg (ints c).toArray, .slice A n k] w fun v w' => v = .bool (decide (n ≤ 50 ∧ c.getD 1 0 ≤ 50)) ∧ More w w' := by
  refine ret_of Tryz.func13 rfl (by kernel_rfl) (Nat.le_of_ble_eq_true (by kernel_rfl)) ?_
  have hm1 := more_alloc w (.cells (ints c).toArray 23)
  have hC1 := Blk.new w 23 (ints c).toArray
  simp -implicitDefEqProofs (maxSteps := 1000000) only [↓zvN, zvU, ↓up_apply, ↓hv_apply, ↓upO_some, ↓upO_none, ↓ev_tmp, ↓ev_const, ↓ev_func, ↓ev_global, init, Nat.reduceEqDiff, Nat.reduceAdd, Nat.reduceMul, Nat.reduceSub, ↓reduceIte, Int.reduceEq, Int.reduceNe, Nat.reduceLeDiff, one, Value.cells, Int.reduceLE, Int.reduceLT, Int.reduceToNat, add_mk, reduceCtorEq, List.mem_range'_1, true_and, and_true, and_false, false_and, Nat.reduceLT, Nat.reduceLeDiff, tyF]
  obtain ⟨w1, hw1⟩ : ∃ w1, w.alloc (.cells (ints c).toArray 23) = w1 := ⟨_, rfl⟩
  rw [hw1] at hm1 hC1 ⊢
  clear hw1
  rw [List.toList_toArray] at hC1
  have c1 : w1.cell? ⟨w.heap.size, 1, none⟩ = some (.int .i64 (c.getD 1 0)) := by rw [hC1.cell]; exact ints_at (by omega)
  by_cases h1 : n ≤ 50
  · have g1 : (n : Int) ≤ 50 := by omega
    by_cases h2 : c.getD 1 0 ≤ 50
    · rw [decide_eq_true (show n ≤ 50 ∧ c.getD 1 0 ≤ 50 from ⟨h1, h2⟩)]
      simp -implicitDefEqProofs (maxSteps := 1000000) only [↓zvN, zvU, ↓up_apply, ↓hv_apply, ↓upO_some, ↓upO_none, ↓ev_tmp, ↓ev_const, ↓ev_func, ↓ev_global, init, Nat.reduceEqDiff, Nat.reduceAdd, Nat.reduceMul, Nat.reduceSub, ↓reduceIte, Int.reduceEq, Int.reduceNe, Nat.reduceLeDiff, one, Value.cells, Int.reduceLE, Int.reduceLT, Int.reduceToNat, add_mk, reduceCtorEq, List.mem_range'_1, true_and, and_true, and_false, false_and, Nat.reduceLT, Nat.reduceLeDiff, tyF, g1, c1, h2]
      exact ⟨⟨rfl, hm1⟩, fun h => by omega⟩
    · rw [decide_eq_false (show ¬ (n ≤ 50 ∧ c.getD 1 0 ≤ 50) from fun h => h2 h.2)]
      simp -implicitDefEqProofs (maxSteps := 1000000) only [↓zvN, zvU, ↓up_apply, ↓hv_apply, ↓upO_some, ↓upO_none, ↓ev_tmp, ↓ev_const, ↓ev_func, ↓ev_global, init, Nat.reduceEqDiff, Nat.reduceAdd, Nat.reduceMul, Nat.reduceSub, ↓reduceIte, Int.reduceEq, Int.reduceNe, Nat.reduceLeDiff, one, Value.cells, Int.reduceLE, Int.reduceLT, Int.reduceToNat, add_mk, reduceCtorEq, List.mem_range'_1, true_and, and_true, and_false, false_and, Nat.reduceLT, Nat.reduceLeDiff, tyF, g1, c1, h2]
      exact ⟨⟨rfl, hm1⟩, fun h => by omega⟩
  · have g1 : ¬ (n : Int) ≤ 50 := by omega
    rw [decide_eq_false (show ¬ (n ≤ 50 ∧ c.getD 1 0 ≤ 50) from fun h => h1 h.1)]
    simp -implicitDefEqProofs (maxSteps := 1000000) only [↓zvN, zvU, ↓up_apply, ↓hv_apply, ↓upO_some, ↓upO_none, ↓ev_tmp, ↓ev_const, ↓ev_func, ↓ev_global, init, Nat.reduceEqDiff, Nat.reduceAdd, Nat.reduceMul, Nat.reduceSub, ↓reduceIte, Int.reduceEq, Int.reduceNe, Nat.reduceLeDiff, one, Value.cells, Int.reduceLE, Int.reduceLT, Int.reduceToNat, add_mk, reduceCtorEq, List.mem_range'_1, true_and, and_true, and_false, false_and, Nat.reduceLT, Nat.reduceLeDiff, tyF, g1]
    exact fun _ => ⟨rfl, hm1⟩
theorem sweep_idem (now : Int) (L : BoxL) : sweepL now (sweepL now L) = sweepL now L := by
  unfold sweepL
  rw [List.filter_filter]
  congr 1
  funext e
  simp
theorem sweep_take (now m n : Int) (p : PrefM) (L : BoxL) : keysM (sweepL now (takeL (sweepL now L) p m n)) = keysM (sweepL now L) ∧ (sweepL now (takeL (sweepL now L) p m n)).length = (sweepL now L).length := by
  have h : sweepL now (takeL (sweepL now L) p m n) = takeL (sweepL now L) p m n := by
    unfold sweepL
    rw [List.filter_eq_self]
    intro e he
    obtain ⟨d, hd, rfl⟩ := List.mem_map.1 he
    have := (List.mem_filter.1 hd).2
    split
    · exact this
    · exact this
  rw [h]
  exact ⟨keys_take _ _ _ _, by unfold takeL; rw [List.length_map]⟩
theorem join_L (r : PolR) (c : Nat) (x : PackM) : (r.join c x).L = r.L := by
  unfold PolR.join
  split
  · obtain ⟨f1, f2, f3, f4, f5, f6, f7, f8, f9⟩ := wake_f (({ r with cls := r.cls.set c (r.cls.getD c [] ++ [x]), qs := r.qs.set c (r.qs.getD c 0 + x.len) } : PolR).count c x.flow (putF x.len)) c
    rw [f7]
    simp
  · rfl
theorem free_L (r : PolR) (x : PackM) (now d0 d1 : Int) : (r.free x now d0 d1).r.L = r.L := by
  unfold PolR.free
  split
  · exact (leave_f _ _ _ _ _).2.2.2.2.2.2.1
  · split
    · unfold PolR.touched; simp
    · rw [join_L]; unfold PolR.touched; simp
theorem boxed_L (r : PolR) (x : PackM) (now : Int) : (r.boxed x now).L = takeL (sweepL now r.L) x.pref (max now 0) x.len := by
  unfold PolR.boxed
  split
  · rw [join_L]; rfl
  · rfl
theorem road_keys (r : PolR) (x : PackM) (now d0 d1 : Int) : keysM (sweepL now (r.road x now d0 d1).r.L) = keysM (sweepL now r.L) ∧ (sweepL now (r.road x now d0 d1).r.L).length = (sweepL now r.L).length := by
  unfold PolR.road
  split
  · show keysM (sweepL now ((r.sweep now).boxed x now).L) = _ ∧ (sweepL now ((r.sweep now).boxed x now).L).length = _
    rw [boxed_L]
    have := sweep_take now (max now 0) x.len x.pref (r.sweep now).L
    rw [show sweepL now (r.sweep now).L = sweepL now r.L from sweep_idem now r.L] at this ⊢
    exact this
  · rw [free_L]
    rw [show sweepL now (r.sweep now).L = sweepL now r.L from sweep_idem now r.L]
    exact ⟨rfl, rfl⟩
theorem free_no (r : PolR) (ho : PolOk r) (x : PackM) (now d0 d1 : Int) : (r.free x now d0 d1).no ≠ 8 ∧ (r.free x now d0 d1).no ≠ 9 ∧ (r.free x now d0 d1).cl ≠ r.pen := by
  have hp : ¬ (-1 : Int) = (r.pen : Int) := by omega
  unfold PolR.free
  split
  · exact ⟨by show (10 : Int) ≠ 8; decide, by show (10 : Int) ≠ 9; decide, hp⟩
  · split
    · exact ⟨by show (12 : Int) ≠ 8; decide, by show (12 : Int) ≠ 9; decide, hp⟩
    · have := joinNo_cases (r.touched x.flow now) (r.cla x.flow) x
      have hc := (gen_cla ho x.flow).2.1
      refine ⟨?_, ?_, ?_⟩
      · show (r.touched x.flow now).joinNo (r.cla x.flow) x ≠ 8
        omega
      · show (r.touched x.flow now).joinNo (r.cla x.flow) x ≠ 9
        omega
      · show ((r.cla x.flow : Nat) : Int) ≠ r.pen
        omega
theorem put_in {now : Int} (hn : 0 ≤ now ∧ now ≤ 4611686018427387903) {L : BoxL} {room : Nat} {p : PrefM} {term rate burst : Int} (ht : 1 ≤ term) {q : Nat} (hc : putCode now L room p = 0) : p ∈ keysM (sweepL now (putB now L room p (newE now term rate burst q))) := by
  unfold putCode at hc
  split at hc
  · cases hc
  · rename_i h1
    split at hc
    · rename_i h2
      unfold putB
      rw [if_neg h1, if_pos h2]
      refine mem_keys.2 ⟨newE now term rate burst q, ?_⟩
      unfold sweepL
      rw [List.mem_filter]
      refine ⟨mem_putL.2 (.inl ⟨rfl, rfl⟩), ?_⟩
      unfold aliveB newE
      rw [decide_eq_true_iff]
      show max now 0 < addM now term
      unfold addM countM
      omega
    · cases hc
theorem put_full {now : Int} {L : BoxL} {room : Nat} {p : PrefM} {e : BoxE} (hno : p ∉ keysM (sweepL now L)) (hc : putCode now L room p ≠ 0) : putB now L room p e = sweepL now L ∧ room ≤ (sweepL now L).length := by
  unfold putCode at hc
  rw [if_neg hno] at hc
  unfold putB
  rw [if_neg hno]
  split at hc
  · exact absurd rfl hc
  · rename_i h2
    rw [if_neg h2]
    exact ⟨rfl, by omega⟩
theorem arrive_box {r : PolR} (hi : PolI r) (x : PackM) {now : Int} (hn : 0 ≤ now ∧ now ≤ 4611686018427387903) (d0 d1 : Int) (q : Nat) :
    (((r.arrive x now d0 d1 q).no = 8 ∨ (r.arrive x now d0 d1 q).no = 9 ∨ (r.arrive x now d0 d1 q).no = 0 ∧ (r.arrive x now d0 d1 q).cl = r.pen) ↔ x.pref ∈ keysM (sweepL now (r.arrive x now d0 d1 q).r.L)) ∧
    ((r.arrive x now d0 d1 q).boxed = true → x.pref ∈ keysM (sweepL now (r.arrive x now d0 d1 q).r.L)) ∧
    ((r.arrive x now d0 d1 q).full = true → x.pref ∉ keysM (sweepL now (r.arrive x now d0 d1 q).r.L) ∧ r.room ≤ (sweepL now (r.arrive x now d0 d1 q).r.L).length) := by
  obtain ⟨f1, f2, f3, f4, f5⟩ := asked_f r x now q
  have hIa := hi.asked x now q
  obtain ⟨k1, k2⟩ := road_keys (r.asked x now q).r (r.named x) now d0 d1
  have hr : (r.arrive x now d0 d1 q).r = ((r.asked x now q).r.road (r.named x) now d0 d1).r := rfl
  rw [hr, k1, k2]
  have hterm : 1 ≤ r.c.getD 17 0 := (hi.ok.rt 17 (by decide)).1
  have hpen : (r.asked x now q).r.pen = r.pen := by unfold PolR.pen PolR.B; rw [f1]
  refine ⟨?_, ?_, ?_⟩
  · show (((r.asked x now q).r.road (r.named x) now d0 d1).no = 8 ∨ ((r.asked x now q).r.road (r.named x) now d0 d1).no = 9 ∨ ((r.asked x now q).r.road (r.named x) now d0 d1).no = 0 ∧ (if ((r.asked x now q).r.road (r.named x) now d0 d1).no = 0 then ((r.asked x now q).r.road (r.named x) now d0 d1).cl else -1) = r.pen) ↔ _
    unfold PolR.road
    cases hin : inB now (r.asked x now q).r.L x.pref with
    | true =>
      have h1 : x.pref ∈ keysM (sweepL now (r.asked x now q).r.L) := by unfold inB at hin; exact decide_eq_true_iff.1 hin
      rw [if_pos (show inB now (r.asked x now q).r.L (r.named x).pref = true from hin)]
      refine ⟨fun _ => h1, fun _ => ?_⟩
      show ((r.asked x now q).r.sweep now).boxedNo (r.named x) now = 8 ∨ ((r.asked x now q).r.sweep now).boxedNo (r.named x) now = 9 ∨ ((r.asked x now q).r.sweep now).boxedNo (r.named x) now = 0 ∧ (if ((r.asked x now q).r.sweep now).boxedNo (r.named x) now = 0 then ((r.asked x now q).r.pen : Int) else -1) = r.pen
      unfold PolR.boxedNo
      split
      · split
        · exact .inr (.inr ⟨rfl, by rw [if_pos rfl, hpen]⟩)
        · exact .inr (.inl rfl)
      · exact .inl rfl
    | false =>
      have h1 : x.pref ∉ keysM (sweepL now (r.asked x now q).r.L) := by unfold inB at hin; exact of_decide_eq_false hin
      rw [if_neg (show ¬ inB now (r.asked x now q).r.L (r.named x).pref = true from by rw [show (r.named x).pref = x.pref from rfl, hin]; decide)]
      obtain ⟨n1, n2, n3⟩ := free_no ((r.asked x now q).r.sweep now) ⟨hIa.ok.cl, hIa.ok.rt, hIa.ok.gok, hIa.ok.gb, hIa.ok.k0, hIa.ok.k1⟩ (r.named x) now d0 d1
      refine ⟨fun h => ?_, fun h => absurd h h1⟩
      rcases h with h | h | ⟨h, h'⟩
      · exact absurd h n1
      · exact absurd h n2
      · rw [if_pos h] at h'
        exact absurd (h'.trans (by rw [← hpen]; rfl)) n3
  · show (r.asked x now q).boxed = true → _
    unfold PolR.asked PolR.ask
    split
    · split
      · intro h; cases h
      · intro h
        have hc := decide_eq_true_iff.1 h
        exact put_in hn hterm hc
    · intro h; cases h
  · show (r.asked x now q).full = true → _
    unfold PolR.asked PolR.ask
    split
    · split
      · intro h; cases h
      · rename_i h1 h2
        intro h
        have hc : ¬ putCode now ((r.next.win x now).sweep now).L (r.next.win x now).room x.pref = 0 := by simpa using h
        have hno : x.pref ∉ keysM (sweepL now ((r.next.win x now).sweep now).L) := by
          rw [show sweepL now ((r.next.win x now).sweep now).L = sweepL now (r.next.win x now).L from sweep_idem _ _]
          unfold inB at h2
          exact fun hh => h2 (decide_eq_true hh)
        have := put_full (e := newE now (r.c.getD 17 0) (r.c.getD 18 0) (r.c.getD 19 0) q) hno hc
        show x.pref ∉ keysM (sweepL now (putB now ((r.next.win x now).sweep now).L r.room x.pref (newE now (r.c.getD 17 0) (r.c.getD 18 0) (r.c.getD 19 0) q))) ∧ r.room ≤ (sweepL now (putB now ((r.next.win x now).sweep now).L r.room x.pref (newE now (r.c.getD 17 0) (r.c.getD 18 0) (r.c.getD 19 0) q))).length
        rw [show putB now ((r.next.win x now).sweep now).L r.room x.pref (newE now (r.c.getD 17 0) (r.c.getD 18 0) (r.c.getD 19 0) q) = _ from this.1, sweep_idem]
        exact ⟨hno, this.2⟩
    · intro h; cases h
theorem arrive_f (r : PolR) (x : PackM) (now d0 d1 : Int) (q : Nat) : (r.arrive x now d0 d1 q).r.c = r.c ∧ (r.arrive x now d0 d1 q).r.g = r.g ∧ (r.arrive x now d0 d1 q).r.n = r.n + 1 ∧ (r.arrive x now d0 d1 q).r.m = r.m := by
  obtain ⟨f1, f2, f3, f4, f5⟩ := asked_f r x now q
  have join_f : ∀ (r : PolR) (c : Nat) (x : PackM), (r.join c x).c = r.c ∧ (r.join c x).g = r.g ∧ (r.join c x).n = r.n ∧ (r.join c x).m = r.m := by
    intro r c x
    unfold PolR.join
    split
    · obtain ⟨f1, f2, f3, f4, f5, f6, f7, f8, f9⟩ := wake_f (({ r with cls := r.cls.set c (r.cls.getD c [] ++ [x]), qs := r.qs.set c (r.qs.getD c 0 + x.len) } : PolR).count c x.flow (putF x.len)) c
      rw [f1, f2, f6, f4]
      simp
    · exact ⟨rfl, rfl, rfl, rfl⟩
  have hs : ((r.asked x now q).r.road (r.named x) now d0 d1).r.c = (r.asked x now q).r.c ∧ ((r.asked x now q).r.road (r.named x) now d0 d1).r.g = (r.asked x now q).r.g ∧ ((r.asked x now q).r.road (r.named x) now d0 d1).r.n = (r.asked x now q).r.n ∧ ((r.asked x now q).r.road (r.named x) now d0 d1).r.m = (r.asked x now q).r.m := by
    unfold PolR.road
    split
    · show (((r.asked x now q).r.sweep now).boxed (r.named x) now).c = _ ∧ (((r.asked x now q).r.sweep now).boxed (r.named x) now).g = _ ∧ (((r.asked x now q).r.sweep now).boxed (r.named x) now).n = _ ∧ (((r.asked x now q).r.sweep now).boxed (r.named x) now).m = _
      unfold PolR.boxed
      split
      · exact join_f _ _ _
      · exact ⟨rfl, rfl, rfl, rfl⟩
    · show (((r.asked x now q).r.sweep now).free (r.named x) now d0 d1).r.c = _ ∧ (((r.asked x now q).r.sweep now).free (r.named x) now d0 d1).r.g = _ ∧ (((r.asked x now q).r.sweep now).free (r.named x) now d0 d1).r.n = _ ∧ (((r.asked x now q).r.sweep now).free (r.named x) now d0 d1).r.m = _
      unfold PolR.free
      split
      · obtain ⟨g1, g2, g3, g4, g5, g6, g7, g8, g9⟩ := leave_f ((r.asked x now q).r.sweep now) (((r.asked x now q).r.sweep now).cla (r.named x).flow) (((r.asked x now q).r.sweep now).cls.getD (((r.asked x now q).r.sweep now).cla (r.named x).flow) []) ‹Nat› ((((r.asked x now q).r.sweep now).cls.getD (((r.asked x now q).r.sweep now).cla (r.named x).flow) []).getD ‹Nat› packZ)
        exact ⟨g1, g2, g6, g4⟩
      · split
        · unfold PolR.touched
          refine ⟨?_, ?_, ?_, ?_⟩ <;> simp <;> rfl
        · obtain ⟨g1, g2, g3, g4⟩ := join_f (((r.asked x now q).r.sweep now).touched (r.named x).flow now) (((r.asked x now q).r.sweep now).cla (r.named x).flow) (r.named x)
          simp only
          rw [g1, g2, g3, g4]
          unfold PolR.touched
          refine ⟨?_, ?_, ?_, ?_⟩ <;> simp <;> rfl
  exact ⟨hs.1.trans f1, hs.2.1.trans f2, hs.2.2.1.trans f4, hs.2.2.2.trans f5⟩
theorem Frm.low {w w' : World} {f f' : Nat → Nat} {B : Nat} (h : Frm w f w' f') (hB : ∀ k, own f k → B ≤ k) (hs : B ≤ w.heap.size) : ∀ k, own f' k → B ≤ k := by
  intro k hk
  rcases Nat.lt_or_ge k w.heap.size with h1 | h1
  · refine hB k ?_
    unfold own at hk ⊢
    rw [h.tag k h1] at hk
    exact hk
  · omega
theorem Frm.more {w0 w w' : World} {f f' : Nat → Nat} (h : Frm w f w' f') (hm : More w0 w) (hB : ∀ k, own f k → w0.heap.size ≤ k) : More w0 w' := h.mod.more hm (fun k hk hh => by have := hB k hh; omega)
theorem zerAct27 : zer Tryz.prog 43 = some (.agg (Act27.mk 0 packZ 0 0 0 (noBytes 16) (List.replicate 20 0)).cells.toArray) := by rw [zer43]; rfl
theorem act_var {w : World} {t : Act27} {K : World → Prop} (h : t.Fit) (hK : ∀ w', More w w' → Blk w' w.heap.size 43 t.cells → K w') :
    stRow 86 t.cells.toArray ⟨w.heap.size, 0, none⟩ (w.alloc (.cells (Act27.mk 0 packZ 0 0 0 (noBytes 16) (List.replicate 20 0)).cells.toArray 43)) K := by
  have hb := Blk.new w 43 (Act27.mk 0 packZ 0 0 0 (noBytes 16) (List.replicate 20 0)).cells.toArray
  refine st_all hb (by rw [List.size_toArray]; exact Act27.len h) rfl (by rw [List.toList_toArray]; exact Act27.one _) fun w' i k => hK w' (i.below (more_alloc _ _) (Nat.le_refl _)) (by rw [List.toList_toArray] at k; exact k)
section
variable {w : World} {q : Nat} {a : Act27}
theorem act_kind (hb : Blk w q 43 a.cells) : w.cell? ⟨q, 0, none⟩ = some (.int .u8 a.kind) := by rw [hb.cell]; rfl
theorem act_pack (h : a.Fit) (hb : Blk w q 43 a.cells) (K : Value → Prop) : ldRow 46 ⟨q, 1, none⟩ w K = K (.agg a.x.cells.toArray) := by
  have hl := pack_len h.x.fl h.x.pr
  rw [hb.row_eq 1 46 (by rw [Act27.len h]; decide)]
  congr 2
  unfold Act27.cells
  rw [List.drop_succ_cons, List.drop_zero, List.take_append_of_le_length (by omega), List.take_of_length_le (by omega)]
theorem act_tail (h : a.Fit) (k : Nat) : a.cells[47 + k]? = (Value.int .i64 a.now :: (.int .u64 a.d0 :: (.int .u64 a.d1 :: (a.key.map byteV ++ ints a.c))))[k]? := by
  have hl := pack_len h.x.fl h.x.pr
  unfold Act27.cells
  rw [show 47 + k = (46 + k) + 1 by omega, List.getElem?_cons_succ, List.getElem?_append_right (by omega), hl, Nat.add_sub_cancel_left]
theorem act_now (h : a.Fit) (hb : Blk w q 43 a.cells) : w.cell? ⟨q, 47, none⟩ = some (.int .i64 a.now) := by rw [hb.cell]; exact act_tail h 0
theorem act_len (h : a.Fit) (hb : Blk w q 43 a.cells) : w.cell? ⟨q, 46, none⟩ = some (.int .i64 a.x.len) := by
  rw [hb.cell]
  unfold Act27.cells
  have hl := pack_len h.x.fl h.x.pr
  rw [show (46 : Nat) = 45 + 1 from rfl, List.getElem?_cons_succ, List.getElem?_append_left (by omega)]
  exact pack_lenAt h.x.fl h.x.pr
theorem act_draws (h : a.Fit) (hb : Blk w q 43 a.cells) (K : Value → Prop) : ldRow 2 ⟨q, 48, none⟩ w K = K (.agg #[.int .u64 a.d0, .int .u64 a.d1]) := by
  have hl := pack_len h.x.fl h.x.pr
  rw [hb.row_eq 48 2 (by rw [Act27.len h]; decide)]
  congr 2
  unfold Act27.cells
  rw [show (48 : Nat) = 47 + 1 from rfl, List.drop_succ_cons, List.drop_append, List.drop_eq_nil_of_le (by omega), hl]
  rfl
theorem act_pref (h : a.Fit) (hb : Blk w q 43 a.cells) (K : Value → Prop) : ldRow 8 ⟨q, 38, none⟩ w K = K (.agg a.x.pref.cells.toArray) := by
  have hp8 : a.x.pref.cells.length = 8 := by simp [PrefM.cells, h.x.pr]
  have hf := FlowM.cells_len h.x.fl
  rw [hb.row_eq 38 8 (by rw [Act27.len h]; decide)]
  congr 2
  unfold Act27.cells PackM.cells
  rw [show (38 : Nat) = 36 + 1 + 1 from rfl, List.drop_succ_cons, List.cons_append, List.drop_succ_cons, List.append_assoc, List.drop_append, hf, Nat.sub_self, List.drop_zero, List.drop_eq_nil_of_le (by omega), List.nil_append, List.append_assoc, List.take_append_of_le_length (by omega), List.take_of_length_le (by omega)]
end
def BoxedJ (l : List Act27) (c : List Int) (a : PolA) (wn : World) (v9 v38 : Value) (w : World) : Prop :=
  ∃ (k : Nat) (now : Int) (f : Nat → Nat) (r : PolR), v38 = .int .i64 k ∧ k ≤ l.length ∧ v9 = .int .i64 now ∧ (0 ≤ now ∧ now ≤ 4611686018427387903) ∧ PolMem w a f r ∧ PolI r ∧ PolC r ∧ r.c = c ∧ (0 ≤ r.n ∧ r.n ≤ k) ∧ (∀ j, own f j → wn.heap.size ≤ j) ∧ More wn w
def InJ (ps : List PrefM) (p : PrefM) (w0 : World) (v13 v78 : Value) (w : World) : Prop := ∃ j : Nat, v78 = .int .i64 j ∧ j ≤ ps.length ∧ v13 = .bool (decide (p ∈ ps.take j)) ∧ More w0 w
theorem police_boxed_law (w : World) (c : List Int) (hc : c.length = 20) (key : List UInt8) (hk : key.length = 16) (A : Option Addr) (l : List Act27) (n : Nat) (hA : Cs w A (l.flatMap Act27.cells)) (hf : ∀ a ∈ l, a.Fit) :
    Ret Tryz.prog 3 #[.agg (ints c).toArray, .agg (key.map byteV).toArray, .slice A l.length n] w fun v w' => v = .bool true ∧ More w w' := by
  refine ret_of Tryz.func3 rfl (by kernel_rfl) (Nat.le_of_ble_eq_true (by kernel_rfl)) ?_
  have hlens : ∀ a ∈ l, a.cells.length = 86 := fun a ha => Act27.len (hf a ha)
  simp -implicitDefEqProofs (maxSteps := 1000000) only [↓zvN, zvU, ↓zvE, zvM, init, one, Value.cells, simprocAttr, tyF]
  have hm1 := more_alloc w (.cells (ints c).toArray 23)
  have hC1 := Blk.new w 23 (ints c).toArray
  obtain ⟨w1, hw1⟩ : ∃ w1, w.alloc (.cells (ints c).toArray 23) = w1 := ⟨_, rfl⟩
  have hw1' := hw1
  rw [hw1] at hm1 hC1 ⊢
  clear hw1
  rw [List.toList_toArray] at hC1
  obtain ⟨z, hz⟩ : ∃ z, w.heap.size = z := ⟨_, rfl⟩
  rw [hz] at hC1 ⊢
  have hm2 := more_alloc w1 (.cells (key.map byteV).toArray 24)
  have hK2 := Blk.new w1 24 (key.map byteV).toArray
  obtain ⟨w2, hw2⟩ : ∃ w2, w1.alloc (.cells (key.map byteV).toArray 24) = w2 := ⟨_, rfl⟩
  rw [hw2] at hm2 hK2 ⊢
  clear hw2
  rw [List.toList_toArray] at hK2
  obtain ⟨zk, hzk⟩ : ∃ zk, w1.heap.size = zk := ⟨_, rfl⟩
  rw [hzk] at hK2
  have hzk' := hzk
  rw [← hw1'] at hzk'
  have hC2 := hC1.more hm2
  try simp -implicitDefEqProofs (maxSteps := 1000000) only [↓zvN, zvU, ↓zvE, zvM, init, one, Value.cells, simprocAttr, tyF]
  refine call_ok Tryz.call12 (awake27 w2) ?_
  rintro _ w3 ⟨rfl, hm3⟩
  have hC3 := hC2.more hm3
  have hK3 := hK2.more hm3
  have cl3 := hC3.all_eq 20 (by rw [ints_len, hc])
  simp -implicitDefEqProofs (maxSteps := 1000000) only [↓zvN, zvU, ↓zvE, zvM, init, one, Value.cells, simprocAttr, tyF, cl3]
  refine call_ok Tryz.call13 (few27 w3 c hc A l.length n) ?_
  rintro _ w4 ⟨rfl, hm4⟩
  have hm04 : More w w4 := ((hm1.trans hm2).trans hm3).trans hm4
  by_cases hfew : l.length ≤ 50 ∧ c.getD 1 0 ≤ 50
  · rw [decide_eq_true hfew]
    have hC4 := hC3.more hm4
    have hK4 := hK3.more hm4
    have cl4 := hC4.all_eq 20 (by rw [ints_len, hc])
    have kl4 := hK4.all_eq 16 (by simpa using hk)
    simp -implicitDefEqProofs (maxSteps := 1000000) only [↓zvN, zvU, ↓zvE, zvM, init, one, Value.cells, simprocAttr, tyF, cl4, hzk, hzk', kl4]
    by_cases hr : rightM c
    · refine call_ok Tryz.call14 (police_new w4 c key hc hk hr) ?_
      rintro _ w5 ⟨hm5, p, rfl, hP⟩
      obtain ⟨a, f0, rfl, hM0, hown0⟩ := hP.mem hc hk hr
      have hI0 := polR0_ok (key := key) hc hk hr
      have hPC0 := polR0_c (key := key) hr
      have hzl : z < w4.heap.size := by have := hC4.lt; omega
      simp -implicitDefEqProofs (maxSteps := 1000000) only [↓zvN, zvU, ↓zvE, zvM, init, one, Value.cells, simprocAttr, tyF]
      refine loop_p (9 :: 10 :: 11 :: 12 :: 13 :: 14 :: 15 :: 16 :: List.range' 38 102) (fun e w' => BoxedJ l c a w4 (e 9) (e 38) w') (fun e _ => l.length - (numOf (e 38)).toNat) ?_ ?_
      · exact ⟨0, 0, f0, polR0 c key, by simp only [hv_apply, up_apply, upO_some, upO_none, init, List.mem_cons, List.mem_range'_1, true_and, and_true, and_false, false_and, Nat.reduceLT, Nat.reduceLeDiff, Nat.reduceAdd, true_or, or_true, if_true, if_false, ↓reduceIte, Nat.reduceEqDiff, false_or, or_false, List.not_mem_nil, List.getElem?_cons_zero, List.getElem?_cons_succ, Option.getD_some] <;> rfl, by omega, by simp only [hv_apply, up_apply, upO_some, upO_none, init, List.mem_cons, List.mem_range'_1, true_and, and_true, and_false, false_and, Nat.reduceLT, Nat.reduceLeDiff, Nat.reduceAdd, true_or, or_true, if_true, if_false, ↓reduceIte, Nat.reduceEqDiff, false_or, or_false, List.not_mem_nil, List.getElem?_cons_zero, List.getElem?_cons_succ, Option.getD_some] <;> rfl, by decide, hM0, hI0, hPC0, rfl, ⟨Int.le_refl _, Int.le_refl _⟩, hown0, hm5⟩
      rintro v w6 ⟨k, now, f, r, h38, hkl, h9, hnow, hM, hI, hPC, hrc, hrn, hown, hm6⟩
      simp only [hv_apply, up_apply, upO_some, upO_none, init, List.mem_cons, List.mem_range'_1, true_and, and_true, and_false, false_and, Nat.reduceLT, Nat.reduceLeDiff, Nat.reduceAdd, true_or, or_true, if_true, if_false, ↓reduceIte, Nat.reduceEqDiff, false_or, or_false, List.not_mem_nil, List.getElem?_cons_zero, List.getElem?_cons_succ, Option.getD_some] at h38 h9
      have ek : IntKind.i64.wrap ((k : Int) + 1) = ((k + 1 : Nat) : Int) := w64 (by omega) (by omega)
      simp -implicitDefEqProofs (maxSteps := 1000000) only [↓zvN, zvU, ↓zvE, zvM, init, one, Value.cells, simprocAttr, tyF, h38]
      refine ⟨fun c9 => ?_, fun c9 => ?_⟩
      · obtain ⟨t, ht⟩ := row_nat l k (by omega)
        have htf := hf t (List.mem_of_getElem? ht)
        have hA6 := hA.more (hm04.trans hm6)
        obtain ⟨ad, rfl⟩ := hA6.some_of (by rw [row_len l hlens]; omega)
        have rd := hA6.rowEq hlens ht
        have g0 : (0 : Int) ≤ (k : Int) := by omega
        simp -implicitDefEqProofs (maxSteps := 1000000) only [↓zvN, zvU, ↓zvE, zvM, init, one, Value.cells, simprocAttr, tyF, h38, g0, c9, rd, zerAct27, Int.toNat_natCast]
        refine act_var htf fun w7 hm7 hT7 => ?_
        rw [s2_undef]
        obtain ⟨u, hu⟩ : ∃ u, w6.heap.size = u := ⟨_, rfl⟩
        rw [hu] at hT7 ⊢
        have hM7 := hM.more hm7
        obtain ⟨km, hkm⟩ : ∃ km, t.kind.tmod 10 = km := ⟨_, rfl⟩
        have hkr : 0 ≤ km ∧ km < 10 := by
          have := htf.k
          rw [← hkm, Int.tmod_eq_emod_of_nonneg this.1]
          exact ⟨Int.emod_nonneg _ (by decide), Int.emod_lt_of_pos _ (by decide)⟩
        have skipIt : ∀ w', More w6 w' → BoxedJ l c a w4 (.int .i64 now) (.int .i64 ((k + 1 : Nat) : Int)) w' := fun w' hm => ⟨k + 1, now, f, r, rfl, by omega, rfl, hnow, hM.more hm, hI, hPC, hrc, ⟨hrn.1, by omega⟩, hown, hm6.trans hm⟩
        by_cases hk4 : 4 ≤ km
        · simp -implicitDefEqProofs (maxSteps := 1000000) only [↓zvN, zvU, ↓zvE, zvM, init, one, Value.cells, simprocAttr, tyF, act_kind hT7, hkm, hk4, h38, h9, ek]
          refine ⟨⟨?_, skipIt _ hm7⟩, by simp only [numOf]; omega⟩
          repeat (first | exact Same.hv _ _ _ | refine Same.hv2 (fun s hs => mem_allK (by decide) hs) ?_ | refine Same.up (by simp) ?_)
        have hk4' : ¬ 4 ≤ km := hk4
        by_cases hl1 : t.x.len < 1
        · simp -implicitDefEqProofs (maxSteps := 1000000) only [↓zvN, zvU, ↓zvE, zvM, init, one, Value.cells, simprocAttr, tyF, act_kind hT7, hkm, hk4', act_len htf hT7, hl1, h38, h9, ek]
          refine ⟨⟨?_, skipIt _ hm7⟩, by simp only [numOf]; omega⟩
          repeat (first | exact Same.hv _ _ _ | refine Same.hv2 (fun s hs => mem_allK (by decide) hs) ?_ | refine Same.up (by simp) ?_)
        by_cases hl2 : (9216 : Int) < t.x.len
        · simp -implicitDefEqProofs (maxSteps := 1000000) only [↓zvN, zvU, ↓zvE, zvM, init, one, Value.cells, simprocAttr, tyF, act_kind hT7, hkm, hk4', act_len htf hT7, hl1, hl2, h38, h9, ek]
          refine ⟨⟨?_, skipIt _ hm7⟩, by simp only [numOf]; omega⟩
          repeat (first | exact Same.hv _ _ _ | refine Same.hv2 (fun s hs => mem_allK (by decide) hs) ?_ | refine Same.up (by simp) ?_)
        have hx : t.x.Ok := ⟨htf.x.fl, htf.x.pr, by omega, by omega⟩
        obtain ⟨nw, hnw⟩ : ∃ nw, max now (min t.now 4611686018427387903) = nw := ⟨_, rfl⟩
        have hnw' : (if now < (if 4611686018427387903 < t.now then 4611686018427387903 else t.now) then (if 4611686018427387903 < t.now then 4611686018427387903 else t.now) else now) = nw := by
          rw [← hnw]
          split <;> split at * <;> omega
        have hnwr : 0 ≤ nw ∧ nw ≤ 4611686018427387903 := by omega
        simp -implicitDefEqProofs (maxSteps := 1000000) only [↓zvN, zvU, ↓zvE, zvM, init, one, Value.cells, simprocAttr, tyF, act_kind hT7, hkm, hk4', act_len htf hT7, hl1, hl2, h38, h9, act_now htf hT7, hnw', act_pack htf hT7, act_draws htf hT7]
        refine call_ok Tryz.call15 (police_arrive w7 a f r hM7 hI t.x hx nw t.d0 t.d1 (by omega) htf.d0 htf.d1 ⟨hrn.1, by omega⟩) ?_
        rintro _ w8 ⟨q, f', rfl, hM8, F8⟩
        have hI8 := hI.arrive hx nw t.d0 t.d1 q hM7.b0.ok hrn.1
        have hPC8 := arrive_c hPC t.x nw t.d0 t.d1 q
        obtain ⟨b1, b2, b3⟩ := arrive_box hI t.x hnwr t.d0 t.d1 q
        obtain ⟨g1, g2, g3, g4⟩ := arrive_f r t.x nw t.d0 t.d1 q
        have hfu : ¬ own f u := hM.new_free (by omega)
        have hfu' := F8.free hT7.lt hfu
        have hT8 := F8.blk hT7 hfu
        have hm68 : More w4 w8 := F8.more (hm6.trans hm7) hown
        have hown8 := F8.low hown (by have := hm6.size; have := hm7.size; omega)
        obtain ⟨no, hno⟩ : ∃ no, (r.arrive t.x nw t.d0 t.d1 q).no = no := ⟨_, rfl⟩
        obtain ⟨vc, hvc⟩ : ∃ vc, (r.arrive t.x nw t.d0 t.d1 q).cl = vc := ⟨_, rfl⟩
        obtain ⟨vv, hvv⟩ : ∃ vv, (r.arrive t.x nw t.d0 t.d1 q).vic = vv := ⟨_, rfl⟩
        obtain ⟨vb, hvb⟩ : ∃ vb, (r.arrive t.x nw t.d0 t.d1 q).boxed = vb := ⟨_, rfl⟩
        obtain ⟨vf, hvf⟩ : ∃ vf, (r.arrive t.x nw t.d0 t.d1 q).full = vf := ⟨_, rfl⟩
        obtain ⟨r8, hr8⟩ : ∃ r8, (r.arrive t.x nw t.d0 t.d1 q).r = r8 := ⟨_, rfl⟩
        rw [hno, hvc, hr8] at b1
        rw [hvb, hr8] at b2
        rw [hvf, hr8] at b3
        rw [hr8] at hM8 hI8 hPC8 g1 g2 g3 g4
        rw [hno, hvc, hvv, hvb, hvf]
        clear hno hvc hvv hvb hvf hr8
        have hroom : r.room = r8.room := by
          have e1 := hPC.rm
          have e2 := hPC8.rm
          rw [g1] at e2
          omega
        simp -implicitDefEqProofs (maxSteps := 1000000) only [↓zvN, zvU, ↓zvE, zvM, init, one, Value.cells, simprocAttr, tyF, zerVd]
        have hm9 := more_alloc w8 (.cells (verC 0 0 0 0 false false).toArray 46)
        have hb9 := Blk.new w8 46 (verC 0 0 0 0 false false).toArray
        obtain ⟨w9, hw9⟩ : ∃ w9, w8.alloc (.cells (verC 0 0 0 0 false false).toArray 46) = w9 := ⟨_, rfl⟩
        rw [hw9] at hm9 hb9 ⊢
        clear hw9
        rw [List.toList_toArray] at hb9
        obtain ⟨y, hy⟩ : ∃ y, w8.heap.size = y := ⟨_, rfl⟩
        have hfy : ¬ own f' y := hM8.new_free (by omega)
        rw [hy] at hb9 ⊢
        refine st_all hb9 rfl rfl (by rw [List.toList_toArray]; exact ver_one _ _ _ _ _ _) fun w10 i10 k10 => ?_
        rw [s2_undef]
        rw [List.toList_toArray] at k10
        have hM10 := (hM8.more hm9).keep (S := fun k => k = y) (Mod.of_wr i10 rfl) (fun k hk => by subst hk; exact Classical.byContradiction hfy)
        have hm410 : More w4 w10 := i10.below (hm68.trans hm9) (by have := hm68.size; omega)
        have huy : u ≠ y := by have := hT8.lt; omega
        have hT10 := i10.blk (hT8.more hm9) huy
        simp -implicitDefEqProofs (maxSteps := 1000000) only [↓zvN, zvU, ↓zvE, zvM, init, one, Value.cells, simprocAttr, tyF]
        refine call_ok Tryz.call16 (police_all w10 a f' r8 hM10 hI8.ok nw) ?_
        rintro _ w11 ⟨Aq, cq, rfl, hAq, hAqg, hM11, m11⟩
        have hT11 := m11.blk hT10 hfu'
        have hV11 := m11.blk k10 hfy
        have hm411 : More w4 w11 := m11.more hm410 (fun k hk h => by have := hown8 k h; omega)
        obtain ⟨ps, hps⟩ : ∃ ps, keysM (sweepL nw r8.L) = ps := ⟨_, rfl⟩
        have hpl : (sweepL nw r8.L).length = ps.length := by rw [← hps]; unfold keysM; rw [List.length_map]
        have hps7 : ∀ p ∈ ps, p.addr.length = 7 := fun p hp => by
          rw [← hps] at hp
          obtain ⟨e, he⟩ := mem_keys.1 hp
          exact hM10.bx.plen (p, e) (List.mem_filter.1 he).1
        have hpl64 : ps.length ≤ r8.room := by
          have h1 := hM10.bx.tab.le
          have h2 : (sweepL nw r8.L).length ≤ r8.L.length := List.length_filter_le _ _
          rw [List.length_map] at h1
          omega
        have hroom64 := hM10.bx.room_le
        rw [hps] at hAq b1 b2 b3
        rw [hpl] at b3 ⊢
        have hlens7 : ∀ p ∈ ps, p.cells.length = 8 := fun p hp => by simp [PrefM.cells, hps7 p hp]
        simp -implicitDefEqProofs (maxSteps := 1000000) only [↓zvN, zvU, ↓zvE, zvM, init, one, Value.cells, simprocAttr, tyF]
        refine loop_p (13 :: 15 :: List.range' 78 15) (fun e w' => InJ ps t.x.pref w11 (e 13) (e 78) w') (fun e _ => ps.length - (numOf (e 78)).toNat) ?_ ?_
        · exact ⟨0, by simp only [hv_apply, up_apply, upO_some, upO_none, init, List.mem_cons, List.mem_range'_1, true_and, and_true, and_false, false_and, Nat.reduceLT, Nat.reduceLeDiff, Nat.reduceAdd, true_or, or_true, if_true, if_false, ↓reduceIte, Nat.reduceEqDiff, false_or, or_false, List.not_mem_nil, List.getElem?_cons_zero, List.getElem?_cons_succ, Option.getD_some] <;> rfl, by omega, by simp only [hv_apply, up_apply, upO_some, upO_none, init, List.mem_cons, List.mem_range'_1, true_and, and_true, and_false, false_and, Nat.reduceLT, Nat.reduceLeDiff, Nat.reduceAdd, true_or, or_true, if_true, if_false, ↓reduceIte, Nat.reduceEqDiff, false_or, or_false, List.not_mem_nil, List.getElem?_cons_zero, List.getElem?_cons_succ, Option.getD_some]; simp, More.refl _⟩
        rintro v2 w12 ⟨j, h78, hjl, h13, hm12⟩
        simp only [hv_apply, up_apply, upO_some, upO_none, init, List.mem_cons, List.mem_range'_1, true_and, and_true, and_false, false_and, Nat.reduceLT, Nat.reduceLeDiff, Nat.reduceAdd, true_or, or_true, if_true, if_false, ↓reduceIte, Nat.reduceEqDiff, false_or, or_false, List.not_mem_nil, List.getElem?_cons_zero, List.getElem?_cons_succ, Option.getD_some] at h78 h13
        have ej : IntKind.i64.wrap ((j : Int) + 1) = ((j + 1 : Nat) : Int) := w64 (by omega) (by omega)
        simp -implicitDefEqProofs (maxSteps := 1000000) only [↓zvN, zvU, ↓zvE, zvM, init, one, Value.cells, simprocAttr, tyF, h78]
        refine ⟨fun c17 => ?_, fun c17 => ?_⟩
        · obtain ⟨p, hp⟩ := row_nat ps j (by omega)
          have hA12 := hAq.more hm12
          obtain ⟨aq, rfl⟩ := hA12.some_of (by rw [row_len ps hlens7]; omega)
          have rq := hA12.rowEq hlens7 hp
          have gj : (0 : Int) ≤ (j : Int) := by omega
          have hT12 := hT11.more hm12
          have hp7 := hps7 p (List.mem_of_getElem? hp)
          have hstep : decide (t.x.pref ∈ ps.take (j + 1)) = (decide (t.x.pref ∈ ps.take j) || decide (p = t.x.pref)) := by
            rw [List.take_add_one, hp]
            simp [eq_comm]
          refine draw_calm mixed (by kernel_rfl) ?_
          by_cases hin : t.x.pref ∈ ps.take j
          · rw [decide_eq_true hin] at h13 hstep
            simp -implicitDefEqProofs (maxSteps := 1000000) only [↓zvN, zvU, ↓zqD, ↓zvE, zvM, init, one, Value.cells, simprocAttr, tyF, h78, h13]
            intro w13 hm13
            try simp -implicitDefEqProofs (maxSteps := 1000000) only [↓zvN, zvU, ↓zvE, zvM, init, one, Value.cells, simprocAttr, tyF, h78, h13, ej]
            refine ⟨⟨?_, j + 1, rfl, by omega, by rw [hstep]; rfl, hm12.trans hm13⟩, by simp only [numOf]; omega⟩
            repeat (first | exact Same.hv _ _ _ | refine Same.hv2 (fun s hs => mem_allK (by decide) hs) ?_ | refine Same.up (by simp) ?_)
          · rw [decide_eq_false hin] at h13 hstep
            simp -implicitDefEqProofs (maxSteps := 1000000) only [↓zvN, zvU, ↓zqD, ↓zvE, zvM, init, one, Value.cells, simprocAttr, tyF, h78, h13, gj, c17, rq, act_pref htf hT12, Int.toNat_natCast]
            rw [pref_eq hp7 htf.x.pr w12]
            simp -implicitDefEqProofs (maxSteps := 1000000) only [↓zvN, zvU, ↓zqD, ↓zvE, zvM, init, one, Value.cells, simprocAttr, tyF]
            intro w13 hm13
            try simp -implicitDefEqProofs (maxSteps := 1000000) only [↓zvN, zvU, ↓zvE, zvM, init, one, Value.cells, simprocAttr, tyF, h78, h13, ej]
            refine ⟨⟨?_, j + 1, rfl, by omega, by rw [hstep, Bool.false_or]; congr, hm12.trans hm13⟩, by simp only [numOf]; omega⟩
            repeat (first | exact Same.hv _ _ _ | refine Same.hv2 (fun s hs => mem_allK (by decide) hs) ?_ | refine Same.up (by simp) ?_)
        · obtain rfl : j = ps.length := by omega
          rw [List.take_length] at h13
          have hV12 := hV11.more hm12
          have hC12 := (hC4.more hm411).more hm12
          have v1 : w12.cell? ⟨y, 1, none⟩ = some (.int .i64 no) := by rw [hV12.cell]; rfl
          have v2 : w12.cell? ⟨y, 2, none⟩ = some (.int .i64 vc) := by rw [hV12.cell]; rfl
          have v4 : w12.cell? ⟨y, 4, none⟩ = some (.bool vb) := by rw [hV12.cell]; rfl
          have v5 : w12.cell? ⟨y, 5, none⟩ = some (.bool vf) := by rw [hV12.cell]; rfl
          have c0 : w12.cell? ⟨z, 0, none⟩ = some (.int .i64 (c.getD 0 0)) := by rw [hC12.cell]; exact ints_at (by omega)
          have c7 : w12.cell? ⟨z, 7, none⟩ = some (.int .i64 (c.getD 7 0)) := by rw [hC12.cell]; exact ints_at (by omega)
          have r0 : 1 ≤ c.getD 0 0 ∧ c.getD 0 0 ≤ 64 := hr 0 (by decide)
          have epen : IntKind.i64.wrap (2 * c.getD 0 0) = (r.pen : Int) := by
            rw [w64 (by omega) (by omega)]
            unfold PolR.pen PolR.B
            rw [hrc]
            omega
          have ergo : (r.room : Int) = c.getD 7 0 := by rw [← hrc]; exact hPC.rm
          have goOn : More w4 w12 → BoxedJ l c a w4 (.int .i64 nw) (.int .i64 ((k + 1 : Nat) : Int)) w12 := fun hm => ⟨k + 1, nw, f', r8.sweep nw, rfl, by omega, rfl, hnwr, hM11.more hm12, hI8.of rfl rfl rfl rfl rfl rfl rfl rfl (Int.le_refl _), hPC8.of rfl rfl rfl rfl, g1.trans hrc, ⟨by show 0 ≤ r8.n; omega, by show r8.n ≤ _; omega⟩, hown8, hm⟩
          have hgo := goOn (hm411.trans hm12)
          by_cases hin : t.x.pref ∈ ps
          · rw [decide_eq_true hin] at h13
            have hvf : vf = false := by
              cases vf with
              | false => rfl
              | true => exact absurd hin (b3 rfl).1
            subst hvf
            rcases b1.2 hin with h8 | h9 | ⟨h0, hc0⟩
            · subst h8
              simp -implicitDefEqProofs (maxSteps := 1000000) only [↓zvN, zvU, ↓zvE, zvM, init, one, Value.cells, simprocAttr, tyF, h13, v1, v2, v4, v5, c0, c7, epen]
              rw [show (true == true) = true from rfl]
              cases vb <;> (simp -implicitDefEqProofs (maxSteps := 1000000) only [↓zvN, zvU, ↓zvE, zvM, init, one, Value.cells, simprocAttr, tyF, h13, v1, v2, v4, v5, h38, ek])
              all_goals (refine ⟨⟨?_, hgo⟩, by simp only [numOf]; omega⟩)
              all_goals (repeat (first | exact Same.hv _ _ _ | refine Same.hv2 (fun s hs => mem_allK (by decide) hs) ?_ | refine Same.up (by simp) ?_))
            · subst h9
              simp -implicitDefEqProofs (maxSteps := 1000000) only [↓zvN, zvU, ↓zvE, zvM, init, one, Value.cells, simprocAttr, tyF, h13, v1, v2, v4, v5, c0, c7, epen]
              rw [show (true == true) = true from rfl]
              cases vb <;> (simp -implicitDefEqProofs (maxSteps := 1000000) only [↓zvN, zvU, ↓zvE, zvM, init, one, Value.cells, simprocAttr, tyF, h13, v1, v2, v4, v5, h38, ek])
              all_goals (refine ⟨⟨?_, hgo⟩, by simp only [numOf]; omega⟩)
              all_goals (repeat (first | exact Same.hv _ _ _ | refine Same.hv2 (fun s hs => mem_allK (by decide) hs) ?_ | refine Same.up (by simp) ?_))
            · subst h0
              simp -implicitDefEqProofs (maxSteps := 1000000) only [↓zvN, zvU, ↓zvE, zvM, init, one, Value.cells, simprocAttr, tyF, h13, v1, v2, v4, v5, c0, c7, epen, hc0]
              rw [show (true == true) = true from rfl]
              cases vb <;> (simp -implicitDefEqProofs (maxSteps := 1000000) only [↓zvN, zvU, ↓zvE, zvM, init, one, Value.cells, simprocAttr, tyF, h13, v1, v2, v4, v5, h38, ek])
              all_goals (refine ⟨⟨?_, hgo⟩, by simp only [numOf]; omega⟩)
              all_goals (repeat (first | exact Same.hv _ _ _ | refine Same.hv2 (fun s hs => mem_allK (by decide) hs) ?_ | refine Same.up (by simp) ?_))
          · rw [decide_eq_false hin] at h13
            have hvb : vb = false := by
              cases vb with
              | false => rfl
              | true => exact absurd (b2 rfl) hin
            subst hvb
            have n8 : ¬ no = 8 := fun h => hin (b1.1 (.inl h))
            have n9 : ¬ no = 9 := fun h => hin (b1.1 (.inr (.inl h)))
            have n0 : no = 0 → ¬ vc = (r.pen : Int) := fun h h' => hin (b1.1 (.inr (.inr ⟨h, h'⟩)))
            by_cases h0 : no = 0
            · subst h0
              simp -implicitDefEqProofs (maxSteps := 1000000) only [↓zvN, zvU, ↓zvE, zvM, init, one, Value.cells, simprocAttr, tyF, h13, v1, v2, v4, v5, c0, c7, epen, n0 rfl]
              rw [show (false == false) = true from rfl]
              simp -implicitDefEqProofs (maxSteps := 1000000) only [↓zvN, zvU, ↓zvE, zvM, init, one, Value.cells, simprocAttr, tyF, h13, v1, v2, v4, v5]
              cases vf
              · simp -implicitDefEqProofs (maxSteps := 1000000) only [↓zvN, zvU, ↓zvE, zvM, init, one, Value.cells, simprocAttr, tyF, h13, v1, v2, v4, v5, h38, ek]
                refine ⟨⟨?_, hgo⟩, by simp only [numOf]; omega⟩
                repeat (first | exact Same.hv _ _ _ | refine Same.hv2 (fun s hs => mem_allK (by decide) hs) ?_ | refine Same.up (by simp) ?_)
              · have hfl := (b3 rfl).2
                have hfe : (ps.length : Int) = c.getD 7 0 := by omega
                simp -implicitDefEqProofs (maxSteps := 1000000) only [↓zvN, zvU, ↓zvE, zvM, init, one, Value.cells, simprocAttr, tyF, h13, v1, v2, v4, v5, c7, hfe, h38, ek]
                refine ⟨⟨?_, hgo⟩, by simp only [numOf]; omega⟩
                repeat (first | exact Same.hv _ _ _ | refine Same.hv2 (fun s hs => mem_allK (by decide) hs) ?_ | refine Same.up (by simp) ?_)
            · simp -implicitDefEqProofs (maxSteps := 1000000) only [↓zvN, zvU, ↓zvE, zvM, init, one, Value.cells, simprocAttr, tyF, h13, v1, v2, v4, v5, c0, c7, epen, n8, n9, h0]
              rw [show (false == false) = true from rfl]
              simp -implicitDefEqProofs (maxSteps := 1000000) only [↓zvN, zvU, ↓zvE, zvM, init, one, Value.cells, simprocAttr, tyF, h13, v1, v2, v4, v5]
              cases vf
              · simp -implicitDefEqProofs (maxSteps := 1000000) only [↓zvN, zvU, ↓zvE, zvM, init, one, Value.cells, simprocAttr, tyF, h13, v1, v2, v4, v5, h38, ek]
                refine ⟨⟨?_, hgo⟩, by simp only [numOf]; omega⟩
                repeat (first | exact Same.hv _ _ _ | refine Same.hv2 (fun s hs => mem_allK (by decide) hs) ?_ | refine Same.up (by simp) ?_)
              · have hfl := (b3 rfl).2
                have hfe : (ps.length : Int) = c.getD 7 0 := by omega
                simp -implicitDefEqProofs (maxSteps := 1000000) only [↓zvN, zvU, ↓zvE, zvM, init, one, Value.cells, simprocAttr, tyF, h13, v1, v2, v4, v5, c7, hfe, h38, ek]
                refine ⟨⟨?_, hgo⟩, by simp only [numOf]; omega⟩
                repeat (first | exact Same.hv _ _ _ | refine Same.hv2 (fun s hs => mem_allK (by decide) hs) ?_ | refine Same.up (by simp) ?_)
      · obtain rfl : k = l.length := by omega
        try simp -implicitDefEqProofs (maxSteps := 1000000) only [↓zvN, zvU, ↓zvE, zvM, init, one, Value.cells, simprocAttr, tyF]
        exact ⟨rfl, hm04.trans hm6⟩
    · refine call_ok Tryz.call14 (police_new_bad w4 c key hc hk hr) ?_
      rintro _ w5 ⟨rfl, hm5⟩
      simp -implicitDefEqProofs (maxSteps := 1000000) only [↓zvN, zvU, ↓zvE, zvM, init, one, Value.cells, simprocAttr, tyF]
      exact ⟨rfl, hm04.trans hm5⟩
  · rw [decide_eq_false hfew]
    simp -implicitDefEqProofs (maxSteps := 1000000) only [↓zvN, zvU, ↓zvE, zvM, init, one, Value.cells, simprocAttr, tyF]
    refine call_ok Tryz.call12 (awake27 w4) ?_
    rintro _ w5 ⟨rfl, hm5⟩
    simp -implicitDefEqProofs (maxSteps := 1000000) only [↓zvN, zvU, ↓zvE, zvM, init, one, Value.cells, simprocAttr, tyF]
    exact ⟨rfl, hm04.trans hm5⟩
end Go.Proofs.YtofhbonnojooeaaGreat

