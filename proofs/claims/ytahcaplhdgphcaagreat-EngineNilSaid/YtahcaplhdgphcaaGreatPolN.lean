/-
  A new police.
-/
import Derived.Test.YtahcaplhdgphcaaGreatStore
namespace Go.Proofs.YtahcaplhdgphcaaGreat
open Go Go.RowKit Go.Proofs.RV
set_option linter.unusedSimpArgs false
set_option linter.unusedVariables false
set_option maxRecDepth 10000
set_option maxHeartbeats 4000000
def polCells (c : List Int) (g s q t b0 b1 wi bx : Value) (n : Int) : List Value := ints c ++ [g, s, q, t, b0, b1, wi, bx, .int .i64 n]
def ptrV (q : Nat) : Value := .pointer (some ⟨q, 0, none⟩)
theorem polCells_len {c : List Int} (hc : c.length = 20) (g s q t b0 b1 wi bx : Value) (n : Int) : (polCells c g s q t b0 b1 wi bx n).length = 29 := by simp [polCells, ints_len, hc]
theorem pol_at {c : List Int} (hc : c.length = 20) (g s q t b0 b1 wi bx : Value) (n : Int) (k : Nat) : (polCells c g s q t b0 b1 wi bx n)[20 + k]? = [g, s, q, t, b0, b1, wi, bx, .int .i64 n][k]? := by
  unfold polCells
  rw [List.getElem?_append_right (by rw [ints_len, hc]; omega), ints_len, hc, Nat.add_sub_cancel_left]
theorem pol_cfg {c : List Int} (hc : c.length = 20) (g s q t b0 b1 wi bx : Value) (n : Int) {k : Nat} (hk : k < 20) : (polCells c g s q t b0 b1 wi bx n)[k]? = some (.int .i64 (c.getD k 0)) := by
  unfold polCells
  rw [List.getElem?_append_left (by rw [ints_len, hc]; exact hk)]
  exact ints_at (by omega)
theorem pol_set {c : List Int} (hc : c.length = 20) (r : List Value) (k : Nat) (v : Value) : (ints c ++ r).set (20 + k) v = ints c ++ r.set k v := by
  rw [List.set_append_right _ _ (by rw [ints_len, hc]; omega), ints_len, hc, Nat.add_sub_cancel_left]
theorem zerCfg : zer Tryz.prog 29 = some (.agg (ints (List.replicate 20 0)).toArray) := by rw [zer29]; rfl
theorem zerPol : zer Tryz.prog 141 = some (.agg (polCells (List.replicate 20 0) (.pointer none) (.pointer none) (.pointer none) (.pointer none) (.pointer none) (.pointer none) (.pointer none) (.pointer none) 0).toArray) := by rw [zer141]; rfl
theorem pol_build {c : List Int} (hc : c.length = 20) (w0 : World) (K : Value → Prop) : pureP Tryz.prog (Instr.build 141 #[(0, .agg (ints c).toArray)]) K = K (.agg (polCells c (.pointer none) (.pointer none) (.pointer none) (.pointer none) (.pointer none) (.pointer none) (.pointer none) (.pointer none) 0).toArray) := by
  refine build_of (P := Tryz.prog) (T := 141) _ (by kernel_rfl) zerPol ?_ w0 K
  refine laid_step (a := []) (b := ints (List.replicate 20 0)) (c := [.pointer none, .pointer none, .pointer none, .pointer none, .pointer none, .pointer none, .pointer none, .pointer none, .int .i64 0]) (vs := ints c) rfl rfl (by kernel_rfl) (by simp [ints_len, hc]) ?_
  rfl
/-- a pointer to something that was boxed amid a region -/
def BoxF (B e : Nat) (cs : List Value) (v : Value) (w : World) : Prop := ∃ q, v = .pointer (some ⟨q, 0, none⟩) ∧ B ≤ q ∧ Blk w q e cs
theorem keepsX (B e : Nat) (cs : List Value) (v : Value) (a b : World) (h : More a b) (k : BoxF B e cs v a) : BoxF B e cs v b := by
  obtain ⟨q, h1, h2, h3⟩ := k
  exact ⟨q, h1, h2, h3.more h⟩
/-- what lies there keeps, but for block p -/
structure BlueZ (w : World) (B q : Nat) (c : List Int) : Prop where
  ex : ∃ b n : Nat, (n : Int) = c.getD 2 0 * c.getD 3 0 ∧ B ≤ b ∧ B ≤ q ∧ b ≠ q ∧ Blk w b 268 ((List.replicate n (BinM.mk 0 0 0)).flatMap BinM.cells) ∧
      Blk w q 240 [.slice (some ⟨b, 0, none⟩) n n, .int .i64 (c.getD 2 0), .int .i64 (c.getD 3 0), .int .i64 (c.getD 13 0), .int .i64 (c.getD 14 0), .int .i64 (c.getD 4 0), .int .i64 (c.getD 5 0)]
theorem BlueZ.but {w w' : World} {B q p : Nat} {c : List Int} (h : BlueZ w B q c) (hm : But p w w') (hp : p < B) : BlueZ w' B q c := by
  obtain ⟨b, n, h1, h2, h3, h4, h5, h6⟩ := h.ex
  exact ⟨b, n, h1, h2, h3, h4, hm.blk h5 (by omega), hm.blk h6 (by omega)⟩
theorem BlueZ.more {w w' : World} {B q : Nat} {c : List Int} (h : BlueZ w B q c) (hm : More w w') : BlueZ w' B q c := by
  obtain ⟨b, n, h1, h2, h3, h4, h5, h6⟩ := h.ex
  exact ⟨b, n, h1, h2, h3, h4, h5.more hm, h6.more hm⟩
structure QuotaZ (w : World) (B q : Nat) (c : List Int) (k : Nat) : Prop where
  ex : ∃ b : Nat, B ≤ b ∧ B ≤ q ∧ b ≠ q ∧ Blk w b 2 (ints (List.replicate k 0)) ∧ Blk w q 255 [.int .i64 (c.getD 9 0), .int .i64 (c.getD 10 0), .int .i64 0, .slice (some ⟨b, 0, none⟩) k k]
theorem QuotaZ.but {w w' : World} {B q p k : Nat} {c : List Int} (h : QuotaZ w B q c k) (hm : But p w w') (hp : p < B) : QuotaZ w' B q c k := by
  obtain ⟨b, h2, h3, h4, h5, h6⟩ := h.ex
  exact ⟨b, h2, h3, h4, hm.blk h5 (by omega), hm.blk h6 (by omega)⟩
structure TurnsZ (w : World) (B q : Nat) (c : List Int) (k : Nat) : Prop where
  ex : ∃ b y : Nat, B ≤ b ∧ B ≤ y ∧ B ≤ q ∧ b ≠ y ∧ b ≠ q ∧ y ≠ q ∧ Blk w b 275 ((List.replicate k (TurnM.mk false false 0)).flatMap TurnM.cells) ∧ Blk w y 3 (ints (List.replicate k 0)) ∧
      Blk w q 258 [.int .i64 (c.getD 8 0), .slice (some ⟨b, 0, none⟩) k k, .slice (some ⟨y, 0, none⟩) 0 k]
theorem TurnsZ.but {w w' : World} {B q p k : Nat} {c : List Int} (h : TurnsZ w B q c k) (hm : But p w w') (hp : p < B) : TurnsZ w' B q c k := by
  obtain ⟨b, y, h1, h2, h3, h4, h5, h6, h7, h8, h9⟩ := h.ex
  exact ⟨b, y, h1, h2, h3, h4, h5, h6, hm.blk h7 (by omega), hm.blk h8 (by omega), hm.blk h9 (by omega)⟩
structure WinZ (w : World) (B q : Nat) (c : List Int) : Prop where
  ex : ∃ (b y n : Nat) (cs : List Value), (n : Int) = c.getD 6 0 ∧ B ≤ b ∧ B ≤ y ∧ B ≤ q ∧ b ≠ y ∧ b ≠ q ∧ y ≠ q ∧ cs.length = n * 10 ∧ Blk w b 208 cs ∧
      Blk w y 283 [.slice (some ⟨b, 0, none⟩) 0 n, .int .i64 0] ∧ Blk w q 206 [.pointer (some ⟨y, 0, none⟩), .int .i64 (c.getD 15 0), .int .i64 (c.getD 16 0), .int .i64 0]
theorem WinZ.but {w w' : World} {B q p : Nat} {c : List Int} (h : WinZ w B q c) (hm : But p w w') (hp : p < B) : WinZ w' B q c := by
  obtain ⟨b, y, n, cs, h1, h2, h3, h4, h5, h6, h7, h8, h9, h10, h11⟩ := h.ex
  exact ⟨b, y, n, cs, h1, h2, h3, h4, h5, h6, h7, h8, hm.blk h9 (by omega), hm.blk h10 (by omega), hm.blk h11 (by omega)⟩
structure BoxZ (w : World) (B q : Nat) (c : List Int) : Prop where
  ex : ∃ b y n : Nat, (n : Int) = 2 * c.getD 7 0 ∧ B ≤ b ∧ B ≤ y ∧ B ≤ q ∧ b ≠ y ∧ b ≠ q ∧ y ≠ q ∧ Blk w b 287 ((List.replicate n (PlaceM.mk 0 prefZ [.int .i64 0, .pointer none])).flatMap PlaceM.cells) ∧
      Blk w y 290 [.slice (some ⟨b, 0, none⟩) n n, .int .i64 (c.getD 7 0), .int .i64 0] ∧ Blk w q 216 [.pointer (some ⟨y, 0, none⟩), .int .i64 (c.getD 17 0), .int .i64 (c.getD 18 0), .int .i64 (c.getD 19 0)]
theorem BoxZ.but {w w' : World} {B q p : Nat} {c : List Int} (h : BoxZ w B q c) (hm : But p w w') (hp : p < B) : BoxZ w' B q c := by
  obtain ⟨b, y, n, h1, h2, h3, h4, h5, h6, h7, h8, h9, h10⟩ := h.ex
  exact ⟨b, y, n, h1, h2, h3, h4, h5, h6, h7, hm.blk h8 (by omega), hm.blk h9 (by omega), hm.blk h10 (by omega)⟩
theorem StoreZ.but {w w' : World} {B p s sb sp cb cc cp y k m : Nat} (h : StoreZ w B s sb sp cb cc cp y k m) (hm : But p w w') (hp : p < B) : StoreZ w' B s sb sp cb cc cp y k m := by
  have g := h.ge
  exact ⟨hm.blk h.st (by omega), hm.blk h.bytes (by omega), hm.blk h.slab (by omega), hm.blk h.places (by omega), hm.blk h.chains (by omega), hm.blk h.lines (by omega), hm.blk h.links (by omega), g⟩
structure StZ (w : World) (B s : Nat) (c : List Int) (k : Nat) : Prop where
  ex : ∃ sb sp cb cc cp y m : Nat, (m : Int) = c.getD 1 0 ∧ StoreZ w B s sb sp cb cc cp y k m
theorem StZ.but {w w' : World} {B s p k : Nat} {c : List Int} (h : StZ w B s c k) (hm : But p w w') (hp : p < B) : StZ w' B s c k := by
  obtain ⟨sb, sp, cb, cc, cp, y, m, h1, h2⟩ := h.ex
  exact ⟨sb, sp, cb, cc, cp, y, m, h1, h2.but hm hp⟩
/-- a new police -/
structure PolZ (w : World) (B p : Nat) (c : List Int) (key : List UInt8) : Prop where
  ge : B ≤ p
  ex : ∃ g s q t x0 x1 wi bx k : Nat, (k : Int) = 2 * c.getD 0 0 + 1 ∧ Blk w p 141 (polCells c (ptrV g) (ptrV s) (ptrV q) (ptrV t) (ptrV x0) (ptrV x1) (ptrV wi) (ptrV bx) 0) ∧
    p < g ∧ Blk w g 231 (GensM.mk (c.getD 0 0) key (noBytes 16) 0 false 0 0).cells ∧ StZ w (p + 1) s c k ∧ QuotaZ w (p + 1) q c k ∧ TurnsZ w (p + 1) t c k ∧ BlueZ w (p + 1) x0 c ∧ BlueZ w (p + 1) x1 c ∧ WinZ w (p + 1) wi c ∧ BoxZ w (p + 1) bx c
def PolNewR (c : List Int) (key : List UInt8) (w : World) (v : Value) (w' : World) : Prop := More w w' ∧ ∃ p, v = .tuple #[.pointer (some ⟨p, 0, none⟩), .int .i64 0] ∧ PolZ w' w.heap.size p c key
/-- the pointers to the blues while they are made -/
def blueV (i : Nat) (x : Nat) (j : Nat) : Value := if j < i then ptrV x else .pointer none
def PolBl (w0 : World) (p a : Nat) (c : List Int) (g s q t : Nat) (v61 : Value) (w : World) : Prop := ∃ i x0 x1 : Nat, v61 = .int .i64 i ∧ i ≤ 2 ∧ But p w0 w ∧ (0 < i → BlueZ w (p + 1) x0 c) ∧ (1 < i → BlueZ w (p + 1) x1 c) ∧
    Blk w p 141 (polCells c (ptrV g) (ptrV s) (ptrV q) (ptrV t) (blueV i x0 0) (blueV i x1 1) (.pointer none) (.pointer none) 0)
theorem police_new (w : World) (c : List Int) (key : List UInt8) (hc : c.length = 20) (hk : key.length = 16) (hr : rightM c) : Ret Tryz.prog 50 #[.agg (ints c).toArray, .agg (key.map byteV).toArray] w (PolNewR c key w) := by
  refine ret_of Tryz.func50 rfl (by kernel_rfl) (Nat.le_of_ble_eq_true (by kernel_rfl)) ?_
  obtain ⟨hbu, hpa, hqu, hns, hre, hsh, hcm, hbl, hwi, hbo⟩ := (parts_right c).1 hr
  simp (config := {maxSteps := 1000000, implicitDefEqProofs := false}) only [↓zvN, zvU, ↓up_apply, ↓hv_apply, ↓upO_some, ↓upO_none, ↓ev_tmp, ↓ev_const, ↓ev_func, ↓ev_global, init, Nat.reduceEqDiff, Nat.reduceAdd, Nat.reduceMul, Nat.reduceSub, ↓reduceIte, Int.reduceEq, Int.reduceNe, Nat.reduceLeDiff, one, Value.cells, Int.reduceLE, Int.reduceLT, Int.reduceToNat, add_mk, reduceCtorEq, List.mem_range'_1, true_and, and_true, and_false, false_and, Nat.reduceLT, Nat.reduceLeDiff, tyF]
  have hm1 := more_alloc w (.cells (ints c).toArray 29)
  have hC1 := Blk.new w 29 (ints c).toArray
  obtain ⟨w1, hw1⟩ : ∃ w1, w.alloc (.cells (ints c).toArray 29) = w1 := ⟨_, rfl⟩
  have s1 := size_alloc w (.cells (ints c).toArray 29)
  have hw1' := hw1
  rw [hw1] at hm1 hC1 s1 ⊢
  clear hw1
  rw [List.toList_toArray] at hC1
  have hm2 := more_alloc w1 (.cells (key.map byteV).toArray 31)
  have hK2 := Blk.new w1 31 (key.map byteV).toArray
  have s2 := size_alloc w1 (.cells (key.map byteV).toArray 31)
  obtain ⟨w2, hw2⟩ : ∃ w2, w1.alloc (.cells (key.map byteV).toArray 31) = w2 := ⟨_, rfl⟩
  rw [hw2] at hm2 hK2 s2 ⊢
  clear hw2
  rw [List.toList_toArray] at hK2
  obtain ⟨a, ha⟩ : ∃ a, w.heap.size = a := ⟨_, rfl⟩
  rw [ha] at hC1 s1 ⊢
  obtain ⟨y, hy⟩ : ∃ y, w1.heap.size = y := ⟨_, rfl⟩
  rw [← hw1'] at hy
  have hy' := hy
  rw [hw1'] at hy
  clear hw1'
  rw [hy] at hK2 s2 s1
  have hC2 := hC1.more hm2
  have cl := hC2.all_eq 20 (by rw [ints_len, hc])
  simp (config := {maxSteps := 1000000, implicitDefEqProofs := false}) only [↓zvN, zvU, ↓up_apply, ↓hv_apply, ↓upO_some, ↓upO_none, ↓ev_tmp, ↓ev_const, ↓ev_func, ↓ev_global, init, Nat.reduceEqDiff, Nat.reduceAdd, Nat.reduceMul, Nat.reduceSub, ↓reduceIte, Int.reduceEq, Int.reduceNe, Nat.reduceLeDiff, one, Value.cells, Int.reduceLE, Int.reduceLT, Int.reduceToNat, add_mk, reduceCtorEq, List.mem_range'_1, true_and, and_true, and_false, false_and, Nat.reduceLT, Nat.reduceLeDiff, tyF, cl]
  refine call_ok Tryz.call90 (config_right w2 c hc) ?_
  rintro _ w3 ⟨rfl, hm3⟩
  rw [decide_eq_true hr]
  have hC3 := hC2.more hm3
  have hK3 := hK2.more hm3
  simp (config := {maxSteps := 1000000, implicitDefEqProofs := false}) only [↓zvN, zvU, ↓up_apply, ↓hv_apply, ↓upO_some, ↓upO_none, ↓ev_tmp, ↓ev_const, ↓ev_func, ↓ev_global, init, Nat.reduceEqDiff, Nat.reduceAdd, Nat.reduceMul, Nat.reduceSub, ↓reduceIte, Int.reduceEq, Int.reduceNe, Nat.reduceLeDiff, one, Value.cells, Int.reduceLE, Int.reduceLT, Int.reduceToNat, add_mk, reduceCtorEq, List.mem_range'_1, true_and, and_true, and_false, false_and, Nat.reduceLT, Nat.reduceLeDiff, tyF]
  obtain ⟨n, hn⟩ : ∃ n : Nat, (n : Int) = c.getD 0 0 := ⟨(c.getD 0 0).toNat, by omega⟩
  have cf : ∀ {w' : World}, Blk w' a 29 (ints c) → ∀ k, k < 20 → w'.cell? ⟨a, k, none⟩ = some (.int .i64 (c.getD k 0)) := fun h k hk => by rw [h.cell]; exact ints_at (by omega)
  have e1 : IntKind.i64.wrap (2 * c.getD 0 0) = 2 * c.getD 0 0 := w64 (by omega) (by omega)
  have e2 : IntKind.i64.wrap (2 * c.getD 0 0 + 1) = 2 * c.getD 0 0 + 1 := w64 (by omega) (by omega)
  have bp := pol_build hc w3
  have cl3 := hC3.all_eq 20 (by rw [ints_len, hc])
  have s3 := hm3.size
  have al := hC3.lt
  refine draw_seen 8 [[], [0], [0, 1], [], [3], [3, 4], [3, 4, 5], [0, 1, 2], [0, 1, 2, 3, 4, 5, 6, 7]] (RV.look [(2, BoxF w3.heap.size 141 (polCells c (.pointer none) (.pointer none) (.pointer none) (.pointer none) (.pointer none) (.pointer none) (.pointer none) (.pointer none) 0))]) mixed (by kernel_rfl) (by kernel_rfl) (look_keeps _ (by
    intro z hz
    simp only [List.mem_cons, List.not_mem_nil, or_false] at hz
    rcases hz with rfl
    exact keepsX _ _ _)) ?_
  simp (config := {maxSteps := 1000000, implicitDefEqProofs := false}) only [↓zvN, zvU, ↓zqD, ↓up_apply, ↓hv_apply, ↓upO_some, ↓upO_none, ↓ev_tmp, ↓ev_const, ↓ev_func, ↓ev_global, init, Nat.reduceEqDiff, Nat.reduceAdd, Nat.reduceMul, Nat.reduceSub, ↓reduceIte, Int.reduceEq, Int.reduceNe, Nat.reduceLeDiff, one, Value.cells, Int.reduceLE, Int.reduceLT, Int.reduceToNat, add_mk, reduceCtorEq, List.mem_range'_1, true_and, and_true, and_false, false_and, Nat.reduceLT, Nat.reduceLeDiff, tyF, cl3, cf hC3 0 (by decide), al, bp, e1, e2]
  refine ⟨fun w4 hm4 => ⟨more_alloc _ _, _, rfl, hm4.size, by simpa using Blk.new w4 141 (polCells c (.pointer none) (.pointer none) (.pointer none) (.pointer none) (.pointer none) (.pointer none) (.pointer none) (.pointer none) 0).toArray⟩, ?_⟩
  rintro _ ⟨w4, hm4, p, rfl, hp, _⟩
  simp (config := {maxSteps := 1000000, implicitDefEqProofs := false}) only [↓zvN, zvU, ↓zqD, ↓up_apply, ↓hv_apply, ↓upO_some, ↓upO_none, ↓ev_tmp, ↓ev_const, ↓ev_func, ↓ev_global, init, Nat.reduceEqDiff, Nat.reduceAdd, Nat.reduceMul, Nat.reduceSub, ↓reduceIte, Int.reduceEq, Int.reduceNe, Nat.reduceLeDiff, one, Value.cells, Int.reduceLE, Int.reduceLT, Int.reduceToNat, add_mk, reduceCtorEq, List.mem_range'_1, true_and, and_true, and_false, false_and, Nat.reduceLT, Nat.reduceLeDiff, tyF, cl3, cf hC3 0 (by decide), al, bp, e1, e2]
  rintro w5 hm5 ⟨p', e5, _, hP5⟩
  cases e5
  have ap : a < p := by omega
  have yp : y < p := by have := hK3.lt; omega
  have hm05 : More w w5 := ((hm1.trans hm2).trans hm3).trans hm5
  have hC5 := hC3.more hm5
  have hK5 := hK3.more hm5
  have k5 := hK5.all_eq 16 (by simp [hk])
  have hpl := hP5.lt
  simp (config := {maxSteps := 1000000, implicitDefEqProofs := false}) only [↓zvN, zvU, ↓up_apply, ↓hv_apply, ↓upO_some, ↓upO_none, ↓ev_tmp, ↓ev_const, ↓ev_func, ↓ev_global, init, Nat.reduceEqDiff, Nat.reduceAdd, Nat.reduceMul, Nat.reduceSub, ↓reduceIte, Int.reduceEq, Int.reduceNe, Nat.reduceLeDiff, one, Value.cells, Int.reduceLE, Int.reduceLT, Int.reduceToNat, add_mk, reduceCtorEq, List.mem_range'_1, true_and, and_true, and_false, false_and, Nat.reduceLT, Nat.reduceLeDiff, tyF, p_nil, cf hC5 0 (by decide), hy', k5]
  refine call_ok Tryz.call91 (gens_new w5 (c.getD 0 0) key hk) ?_
  rintro _ w6 ⟨hm6, hyes, _⟩
  obtain ⟨g, rfl, hg, hG6⟩ := hyes hbu
  simp (config := {maxSteps := 1000000, implicitDefEqProofs := false}) only [↓zvN, zvU, ↓up_apply, ↓hv_apply, ↓upO_some, ↓upO_none, ↓ev_tmp, ↓ev_const, ↓ev_func, ↓ev_global, init, Nat.reduceEqDiff, Nat.reduceAdd, Nat.reduceMul, Nat.reduceSub, ↓reduceIte, Int.reduceEq, Int.reduceNe, Nat.reduceLeDiff, one, Value.cells, Int.reduceLE, Int.reduceLT, Int.reduceToNat, add_mk, reduceCtorEq, List.mem_range'_1, true_and, and_true, and_false, false_and, Nat.reduceLT, Nat.reduceLeDiff, tyF]
  refine st_cell (i := 20) (v := ptrV g) (hP5.more hm6) (by rw [polCells_len hc]; decide) rfl fun w7 i7 hP7 => ?_
  rw [s2_undef]
  replace hP7 : Blk w7 p 141 (polCells c (ptrV g) (.pointer none) (.pointer none) (.pointer none) (.pointer none) (.pointer none) (.pointer none) (.pointer none) 0) := by
    have h := hP7
    unfold polCells at h
    rw [show (20 : Nat) = 20 + 0 from rfl, pol_set hc] at h
    exact h
  have f57 : But p w5 w7 := (But.of_more hm6).trans (But.of_wr i7)
  have hG7 := i7.blk hG6 (by omega)
  have hC7 := f57.blk hC5 (by omega)
  have s57 := f57.size
  simp (config := {maxSteps := 1000000, implicitDefEqProofs := false}) only [↓zvN, zvU, ↓up_apply, ↓hv_apply, ↓upO_some, ↓upO_none, ↓ev_tmp, ↓ev_const, ↓ev_func, ↓ev_global, init, Nat.reduceEqDiff, Nat.reduceAdd, Nat.reduceMul, Nat.reduceSub, ↓reduceIte, Int.reduceEq, Int.reduceNe, Nat.reduceLeDiff, one, Value.cells, Int.reduceLE, Int.reduceLT, Int.reduceToNat, add_mk, reduceCtorEq, List.mem_range'_1, true_and, and_true, and_false, false_and, Nat.reduceLT, Nat.reduceLeDiff, tyF, cf hC7 1 (by decide), e1, e2]
  refine call_ok Tryz.call92 (store_new w7 (2 * c.getD 0 0 + 1) (c.getD 1 0) ⟨by omega, hpa⟩) ?_
  rintro _ w8 ⟨hm8, s, sb, sp, cb, cc, cp, y8, k, m, rfl, hkk, hmm, hS8⟩
  have gg : p < g := by have := hm6.size; have := hP5.lt; omega
  have pw7 : p + 1 ≤ w7.heap.size := by have := hP7.lt; omega
  have hS8 : StZ w8 (p + 1) s c k := ⟨sb, sp, cb, cc, cp, y8, m, hmm, hS8.st, hS8.bytes, hS8.slab, hS8.places, hS8.chains, hS8.lines, hS8.links, by have := hS8.ge; omega⟩
  clear hyes
  simp (config := {maxSteps := 1000000, implicitDefEqProofs := false}) only [↓zvN, zvU, ↓up_apply, ↓hv_apply, ↓upO_some, ↓upO_none, ↓ev_tmp, ↓ev_const, ↓ev_func, ↓ev_global, init, Nat.reduceEqDiff, Nat.reduceAdd, Nat.reduceMul, Nat.reduceSub, ↓reduceIte, Int.reduceEq, Int.reduceNe, Nat.reduceLeDiff, one, Value.cells, Int.reduceLE, Int.reduceLT, Int.reduceToNat, add_mk, reduceCtorEq, List.mem_range'_1, true_and, and_true, and_false, false_and, Nat.reduceLT, Nat.reduceLeDiff, tyF]
  refine st_cell (i := 21) (v := ptrV s) (hP7.more hm8) (by rw [polCells_len hc]; decide) rfl fun w9 i9 hP9 => ?_
  rw [s2_undef]
  replace hP9 : Blk w9 p 141 (polCells c (ptrV g) (ptrV s) (.pointer none) (.pointer none) (.pointer none) (.pointer none) (.pointer none) (.pointer none) 0) := by
    have h := hP9
    unfold polCells at h
    rw [show (21 : Nat) = 20 + 1 from rfl, pol_set hc] at h
    exact h
  have f79 : But p w7 w9 := (But.of_more hm8).trans (But.of_wr i9)
  have hG9 := f79.blk hG7 (by omega)
  have hC9 := f79.blk hC7 (by omega)
  have hS9 := hS8.but (But.of_wr i9) (by omega)
  have s79 := f79.size
  simp (config := {maxSteps := 1000000, implicitDefEqProofs := false}) only [↓zvN, zvU, ↓up_apply, ↓hv_apply, ↓upO_some, ↓upO_none, ↓ev_tmp, ↓ev_const, ↓ev_func, ↓ev_global, init, Nat.reduceEqDiff, Nat.reduceAdd, Nat.reduceMul, Nat.reduceSub, ↓reduceIte, Int.reduceEq, Int.reduceNe, Nat.reduceLeDiff, one, Value.cells, Int.reduceLE, Int.reduceLT, Int.reduceToNat, add_mk, reduceCtorEq, List.mem_range'_1, true_and, and_true, and_false, false_and, Nat.reduceLT, Nat.reduceLeDiff, tyF, cf hC9 9 (by decide), cf hC9 10 (by decide), e1, e2]
  refine call_ok Tryz.call93 (quota_new w9 (2 * c.getD 0 0 + 1) (c.getD 9 0) (c.getD 10 0) ⟨by omega, hre, hsh⟩) ?_
  rintro _ w10 ⟨hm10, hyes⟩
  obtain ⟨ql, q, kq, rfl, hkq, hql, hqq, hQ1, hQ2⟩ := hyes ⟨by omega, hre, hsh⟩
  obtain rfl : kq = k := by omega
  have hQ10 : QuotaZ w10 (p + 1) q c kq := ⟨ql, by omega, by omega, by omega, hQ1, hQ2⟩
  clear hyes hQ1 hQ2
  simp (config := {maxSteps := 1000000, implicitDefEqProofs := false}) only [↓zvN, zvU, ↓up_apply, ↓hv_apply, ↓upO_some, ↓upO_none, ↓ev_tmp, ↓ev_const, ↓ev_func, ↓ev_global, init, Nat.reduceEqDiff, Nat.reduceAdd, Nat.reduceMul, Nat.reduceSub, ↓reduceIte, Int.reduceEq, Int.reduceNe, Nat.reduceLeDiff, one, Value.cells, Int.reduceLE, Int.reduceLT, Int.reduceToNat, add_mk, reduceCtorEq, List.mem_range'_1, true_and, and_true, and_false, false_and, Nat.reduceLT, Nat.reduceLeDiff, tyF]
  refine st_cell (i := 22) (v := ptrV q) (hP9.more hm10) (by rw [polCells_len hc]; decide) rfl fun w11 i11 hP11 => ?_
  rw [s2_undef]
  replace hP11 : Blk w11 p 141 (polCells c (ptrV g) (ptrV s) (ptrV q) (.pointer none) (.pointer none) (.pointer none) (.pointer none) (.pointer none) 0) := by
    have h := hP11
    unfold polCells at h
    rw [show (22 : Nat) = 20 + 2 from rfl, pol_set hc] at h
    exact h
  have f911 : But p w9 w11 := (But.of_more hm10).trans (But.of_wr i11)
  have hG11 := f911.blk hG9 (by omega)
  have hC11 := f911.blk hC9 (by omega)
  have hS11 := hS9.but f911 (by omega)
  have hQ11 := hQ10.but (But.of_wr i11) (by omega)
  have s911 := f911.size
  simp (config := {maxSteps := 1000000, implicitDefEqProofs := false}) only [↓zvN, zvU, ↓up_apply, ↓hv_apply, ↓upO_some, ↓upO_none, ↓ev_tmp, ↓ev_const, ↓ev_func, ↓ev_global, init, Nat.reduceEqDiff, Nat.reduceAdd, Nat.reduceMul, Nat.reduceSub, ↓reduceIte, Int.reduceEq, Int.reduceNe, Nat.reduceLeDiff, one, Value.cells, Int.reduceLE, Int.reduceLT, Int.reduceToNat, add_mk, reduceCtorEq, List.mem_range'_1, true_and, and_true, and_false, false_and, Nat.reduceLT, Nat.reduceLeDiff, tyF, cf hC11 8 (by decide), e1, e2]
  refine call_ok Tryz.call94 (turns_new w11 (2 * c.getD 0 0 + 1) (c.getD 8 0) ⟨by omega, by omega⟩) ?_
  rintro _ w12 ⟨hm12, hyes⟩
  obtain ⟨tb, ty, t, kt, rfl, hkt, htb, hty, hne, ht1, ht2, hT1, hT2, hT3⟩ := hyes ⟨by omega, by omega⟩
  obtain rfl : kt = kq := by omega
  have hT12 : TurnsZ w12 (p + 1) t c kt := ⟨tb, ty, by omega, by omega, by omega, hne, by omega, by omega, hT1, hT2, hT3⟩
  clear hyes hT1 hT2 hT3
  simp (config := {maxSteps := 1000000, implicitDefEqProofs := false}) only [↓zvN, zvU, ↓up_apply, ↓hv_apply, ↓upO_some, ↓upO_none, ↓ev_tmp, ↓ev_const, ↓ev_func, ↓ev_global, init, Nat.reduceEqDiff, Nat.reduceAdd, Nat.reduceMul, Nat.reduceSub, ↓reduceIte, Int.reduceEq, Int.reduceNe, Nat.reduceLeDiff, one, Value.cells, Int.reduceLE, Int.reduceLT, Int.reduceToNat, add_mk, reduceCtorEq, List.mem_range'_1, true_and, and_true, and_false, false_and, Nat.reduceLT, Nat.reduceLeDiff, tyF]
  refine st_cell (i := 23) (v := ptrV t) (hP11.more hm12) (by rw [polCells_len hc]; decide) rfl fun w13 i13 hP13 => ?_
  rw [s2_undef]
  replace hP13 : Blk w13 p 141 (polCells c (ptrV g) (ptrV s) (ptrV q) (ptrV t) (.pointer none) (.pointer none) (.pointer none) (.pointer none) 0) := by
    have h := hP13
    unfold polCells at h
    rw [show (23 : Nat) = 20 + 3 from rfl, pol_set hc] at h
    exact h
  have f1113 : But p w11 w13 := (But.of_more hm12).trans (But.of_wr i13)
  have hG13 := f1113.blk hG11 (by omega)
  have hC13 := f1113.blk hC11 (by omega)
  have hS13 := hS11.but f1113 (by omega)
  have hQ13 := hQ11.but f1113 (by omega)
  have hT13 := hT12.but (But.of_wr i13) (by omega)
  have s1113 := f1113.size
  have hm13 : More w w13 := by
    have h7 : More w w7 := i7.below (hm05.trans hm6) (by omega : w.heap.size ≤ p)
    have h9 : More w w9 := i9.below (h7.trans hm8) (by omega : w.heap.size ≤ p)
    have h11 : More w w11 := i11.below (h9.trans hm10) (by omega : w.heap.size ≤ p)
    exact i13.below (h11.trans hm12) (by omega : w.heap.size ≤ p)
  clear hK2 hK3 hK5 hP5 hP7 hP9 hP11 hC1 hC2 hC3 hC5 hC7 hC9 hC11 hG6 hG7 hG9 hG11 hS8 hS9 hS11 hQ10 hQ11 hT12 bp cl cl3 k5
  simp (config := {maxSteps := 1000000, implicitDefEqProofs := false}) only [↓zvN, zvU, ↓up_apply, ↓hv_apply, ↓upO_some, ↓upO_none, ↓ev_tmp, ↓ev_const, ↓ev_func, ↓ev_global, init, Nat.reduceEqDiff, Nat.reduceAdd, Nat.reduceMul, Nat.reduceSub, ↓reduceIte, Int.reduceEq, Int.reduceNe, Nat.reduceLeDiff, one, Value.cells, Int.reduceLE, Int.reduceLT, Int.reduceToNat, add_mk, reduceCtorEq, List.mem_range'_1, true_and, and_true, and_false, false_and, Nat.reduceLT, Nat.reduceLeDiff, tyF]
  refine loop_p (8 :: List.range' 61 25) (fun e w' => PolBl w13 p a c g s q t (e 61) w') (fun e _ => 2 - (numOf (e 61)).toNat) ?_ ?_
  · exact ⟨0, 0, 0, by simp only [hv_apply, up_apply, upO_some, upO_none, init, List.mem_cons, List.mem_range'_1, true_and, and_true, and_false, false_and, Nat.reduceLT, Nat.reduceLeDiff, Nat.reduceAdd, true_or, or_true, if_true, if_false, ↓reduceIte, Nat.reduceEqDiff, false_or, or_false, List.not_mem_nil, List.getElem?_cons_zero, List.getElem?_cons_succ, Option.getD_some] <;> rfl, by omega, But.refl _ _, (fun h => by omega), (fun h => by omega), hP13⟩
  rintro v w14 ⟨i, x0, x1, h61, hi, f14, hx0, hx1, hP14⟩
  simp only [hv_apply, up_apply, upO_some, upO_none, init, List.mem_cons, List.mem_range'_1, true_and, and_true, and_false, false_and, Nat.reduceLT, Nat.reduceLeDiff, Nat.reduceAdd, true_or, or_true, if_true, if_false, ↓reduceIte, Nat.reduceEqDiff, false_or, or_false, List.not_mem_nil, List.getElem?_cons_zero, List.getElem?_cons_succ, Option.getD_some] at h61
  have ei : IntKind.i64.wrap ((i : Int) + 1) = ((i + 1 : Nat) : Int) := w64 (by omega) (by omega)
  simp (config := {maxSteps := 1000000, implicitDefEqProofs := false}) only [↓zvN, zvU, ↓up_apply, ↓hv_apply, ↓upO_some, ↓upO_none, ↓ev_tmp, ↓ev_const, ↓ev_func, ↓ev_global, init, Nat.reduceEqDiff, Nat.reduceAdd, Nat.reduceMul, Nat.reduceSub, ↓reduceIte, Int.reduceEq, Int.reduceNe, Nat.reduceLeDiff, one, Value.cells, Int.reduceLE, Int.reduceLT, Int.reduceToNat, add_mk, reduceCtorEq, List.mem_range'_1, true_and, and_true, and_false, false_and, Nat.reduceLT, Nat.reduceLeDiff, tyF, h61]
  refine ⟨fun h9 => ?_, fun h9 => ?_⟩
  · have g0 : (0 : Int) ≤ (i : Int) := by omega
    have hC14 := f14.blk hC13 (by omega)
    have pw14 : p < w14.heap.size := hP14.lt
    refine draw_line p (KeepF p fun _ => False) [0, 0, 0, 0, 0, 0, 0, 0, 0, 0, 0, 0, 0, 0, 1, 0, 0, 0, 0, 0, 0, 1] [[], [], [], [2], [], [4], [], [6], [], [8], [], [10], [], [12], [2, 3, 4, 5, 6, 7, 8, 9, 10, 11, 12, 13], [2, 3, 4, 5, 6, 7, 8, 9, 10, 11, 12, 13, 14], [2, 3, 4, 5, 6, 7, 8, 9, 10, 11, 12, 13, 14, 15], [2, 3, 4, 5, 6, 7, 8, 9, 10, 11, 12, 13, 14, 15], [0], [0, 18], [0, 1, 2, 3, 4, 5, 6, 7, 8, 9, 10, 11, 12, 13, 14, 15, 16, 18, 19], [0, 1, 2, 3, 4, 5, 6, 7, 8, 9, 10, 11, 12, 13, 14, 15, 16, 18, 19, 20]] mixed (by kernel_rfl) (by kernel_rfl) (KeepF.refl _ _ _) (fun w' h => KeepF.of_more h (by omega) (fun _ h => h.elim)) (fun w' h => h.1) ?_
    intro w15 hm15
    simp (config := {maxSteps := 1000000, implicitDefEqProofs := false}) only [↓zvN, zvU, ↓zqD, ↓sk_nil, ↓sk_cons, ↓sk_guard, ↓sk_zero, ↓sk_one, ↓sk_two, ↓up_apply, ↓hv_apply, ↓upO_some, ↓upO_none, ↓ev_tmp, ↓ev_const, ↓ev_func, ↓ev_global, init, Nat.reduceEqDiff, Nat.reduceAdd, Nat.reduceMul, Nat.reduceSub, ↓reduceIte, Int.reduceEq, Int.reduceNe, Nat.reduceLeDiff, one, Value.cells, Int.reduceLE, Int.reduceLT, Int.reduceToNat, add_mk, reduceCtorEq, List.mem_range'_1, true_and, and_true, and_false, false_and, Nat.reduceLT, Nat.reduceLeDiff, tyF, cf hC14 2 (by decide), cf hC14 3 (by decide), cf hC14 13 (by decide), cf hC14 14 (by decide), cf hC14 4 (by decide), cf hC14 5 (by decide), ap, h61]
    refine call_ok Tryz.call95 (blue_new w15 (c.getD 2 0) (c.getD 3 0) (c.getD 13 0) (c.getD 14 0) (c.getD 4 0) (c.getD 5 0)) ?_
    rintro _ w16 ⟨hm16, hyes, _⟩
    obtain ⟨bb, x, nb, rfl, hnb, hbb, hbx, hB1, hB2⟩ := hyes hbl
    have hm1416 := hm15.trans hm16
    have hk16 : KeepF p (fun _ => False) w14 w16 := KeepF.of_more hm1416 (by omega) (fun _ h => h.elim)
    have s15 := hm15.size
    have hX16 : BlueZ w16 (p + 1) x c := ⟨bb, nb, hnb, by omega, by omega, by omega, hB1, hB2⟩
    clear hyes hB1 hB2
    simp (config := {maxSteps := 1000000, implicitDefEqProofs := false}) only [↓zvN, zvU, ↓zqD, ↓sk_nil, ↓sk_cons, ↓sk_guard, ↓sk_zero, ↓sk_one, ↓sk_two, ↓up_apply, ↓hv_apply, ↓upO_some, ↓upO_none, ↓ev_tmp, ↓ev_const, ↓ev_func, ↓ev_global, init, Nat.reduceEqDiff, Nat.reduceAdd, Nat.reduceMul, Nat.reduceSub, ↓reduceIte, Int.reduceEq, Int.reduceNe, Nat.reduceLeDiff, one, Value.cells, Int.reduceLE, Int.reduceLT, Int.reduceToNat, add_mk, reduceCtorEq, List.mem_range'_1, true_and, and_true, and_false, false_and, Nat.reduceLT, Nat.reduceLeDiff, tyF, cf hC14 2 (by decide), ap, h61, g0, h9, Int.toNat_natCast]
    refine ⟨hk16, ?_⟩
    refine st_cell (i := 24 + i) (v := ptrV x) (hP14.more hm1416) (by rw [polCells_len hc]; omega) rfl fun w17 i17 hP17 => ?_
    rw [s2_undef]
    have hk17 : KeepF p (fun _ => False) w14 w17 := ⟨hk16.1.trans (i17.below (Below.refl _ _) (Nat.le_refl _)), fun _ h => h.elim⟩
    have f1417 : But p w14 w17 := (But.of_more hm1416).trans (But.of_wr i17)
    have hX17 := hX16.but (But.of_wr i17) (by omega)
    refine ⟨hk17, ?_⟩
    try simp (config := {maxSteps := 1000000, implicitDefEqProofs := false}) only [↓zvN, zvU, ↓zqD, ↓sk_nil, ↓sk_cons, ↓sk_guard, ↓sk_zero, ↓sk_one, ↓sk_two, ↓up_apply, ↓hv_apply, ↓upO_some, ↓upO_none, ↓ev_tmp, ↓ev_const, ↓ev_func, ↓ev_global, init, Nat.reduceEqDiff, Nat.reduceAdd, Nat.reduceMul, Nat.reduceSub, ↓reduceIte, Int.reduceEq, Int.reduceNe, Nat.reduceLeDiff, one, Value.cells, Int.reduceLE, Int.reduceLT, Int.reduceToNat, add_mk, reduceCtorEq, List.mem_range'_1, true_and, and_true, and_false, false_and, Nat.reduceLT, Nat.reduceLeDiff, tyF, h61, ei]
    try simp (config := {maxSteps := 1000000, implicitDefEqProofs := false}) only [↓zvN, zvU, ↓up_apply, ↓hv_apply, ↓upO_some, ↓upO_none, ↓ev_tmp, ↓ev_const, ↓ev_func, ↓ev_global, init, Nat.reduceEqDiff, Nat.reduceAdd, Nat.reduceMul, Nat.reduceSub, ↓reduceIte, Int.reduceEq, Int.reduceNe, Nat.reduceLeDiff, one, Value.cells, Int.reduceLE, Int.reduceLT, Int.reduceToNat, add_mk, reduceCtorEq, List.mem_range'_1, true_and, and_true, and_false, false_and, Nat.reduceLT, Nat.reduceLeDiff, tyF, h61, ei]
    have h2 : i = 0 ∨ i = 1 := by omega
    rcases h2 with rfl | rfl
    · refine ⟨⟨?_, 1, x, x1, rfl, by omega, f14.trans f1417, (fun _ => hX17), (fun h => by omega), ?_⟩, by simp only [numOf]; omega⟩
      · repeat (first | exact Same.hv _ _ _ | refine Same.hv2 (fun s hs => mem_allS (by decide) hs) ?_ | refine Same.up (by simp) ?_)
      · have h := hP17
        unfold polCells at h
        rw [show (24 + 0 : Nat) = 20 + 4 from rfl, pol_set hc] at h
        exact h
    · refine ⟨⟨?_, 2, x0, x, rfl, by omega, f14.trans f1417, (fun _ => (hx0 (by omega)).but f1417 (by omega)), (fun _ => hX17), ?_⟩, by simp only [numOf]; omega⟩
      · repeat (first | exact Same.hv _ _ _ | refine Same.hv2 (fun s hs => mem_allS (by decide) hs) ?_ | refine Same.up (by simp) ?_)
      · have h := hP17
        unfold polCells at h
        rw [show (24 + 1 : Nat) = 20 + 5 from rfl, pol_set hc] at h
        exact h
  obtain rfl : i = 2 := by omega
  have hB0 := hx0 (by omega)
  have hB1 := hx1 (by omega)
  have hC14 := f14.blk hC13 (by omega)
  have hG14 := f14.blk hG13 (by omega)
  have hS14 := hS13.but f14 (by omega)
  have hQ14 := hQ13.but f14 (by omega)
  have hT14 := hT13.but f14 (by omega)
  have s14 := f14.size
  have hm14 : More w w14 := Mod.more hm13 f14 (fun k hk h => by omega)
  replace hP14 : Blk w14 p 141 (polCells c (ptrV g) (ptrV s) (ptrV q) (ptrV t) (ptrV x0) (ptrV x1) (.pointer none) (.pointer none) 0) := hP14
  clear hx0 hx1 hG13 hS13 hQ13 hT13 hC13 hP13
  simp (config := {maxSteps := 1000000, implicitDefEqProofs := false}) only [↓zvN, zvU, ↓up_apply, ↓hv_apply, ↓upO_some, ↓upO_none, ↓ev_tmp, ↓ev_const, ↓ev_func, ↓ev_global, init, Nat.reduceEqDiff, Nat.reduceAdd, Nat.reduceMul, Nat.reduceSub, ↓reduceIte, Int.reduceEq, Int.reduceNe, Nat.reduceLeDiff, one, Value.cells, Int.reduceLE, Int.reduceLT, Int.reduceToNat, add_mk, reduceCtorEq, List.mem_range'_1, true_and, and_true, and_false, false_and, Nat.reduceLT, Nat.reduceLeDiff, tyF, cf hC14 6 (by decide), cf hC14 15 (by decide), cf hC14 16 (by decide)]
  refine call_ok Tryz.call96 (window_new w14 (c.getD 6 0) (c.getD 15 0) (c.getD 16 0)) ?_
  rintro _ w15 ⟨hm15, hyes, _⟩
  obtain ⟨wb, wy, wi, wn, wcs, rfl, hwn, hwb, hwby, hwyi, hwcl, hW1, hW2, hW3⟩ := hyes hwi
  have hW15 : WinZ w15 (p + 1) wi c := ⟨wb, wy, wn, wcs, hwn, by omega, by omega, by omega, by omega, by omega, by omega, hwcl, hW1, hW2, hW3⟩
  clear hyes hW1 hW2 hW3
  simp (config := {maxSteps := 1000000, implicitDefEqProofs := false}) only [↓zvN, zvU, ↓up_apply, ↓hv_apply, ↓upO_some, ↓upO_none, ↓ev_tmp, ↓ev_const, ↓ev_func, ↓ev_global, init, Nat.reduceEqDiff, Nat.reduceAdd, Nat.reduceMul, Nat.reduceSub, ↓reduceIte, Int.reduceEq, Int.reduceNe, Nat.reduceLeDiff, one, Value.cells, Int.reduceLE, Int.reduceLT, Int.reduceToNat, add_mk, reduceCtorEq, List.mem_range'_1, true_and, and_true, and_false, false_and, Nat.reduceLT, Nat.reduceLeDiff, tyF]
  refine st_cell (i := 26) (v := ptrV wi) (hP14.more hm15) (by rw [polCells_len hc]; decide) rfl fun w16 i16 hP16 => ?_
  rw [s2_undef]
  replace hP16 : Blk w16 p 141 (polCells c (ptrV g) (ptrV s) (ptrV q) (ptrV t) (ptrV x0) (ptrV x1) (ptrV wi) (.pointer none) 0) := by
    have h := hP16
    unfold polCells at h
    rw [show (26 : Nat) = 20 + 6 from rfl, pol_set hc] at h
    exact h
  have f1416 : But p w14 w16 := (But.of_more hm15).trans (But.of_wr i16)
  have hC16 := f1416.blk hC14 (by omega)
  have s1416 := f1416.size
  simp (config := {maxSteps := 1000000, implicitDefEqProofs := false}) only [↓zvN, zvU, ↓up_apply, ↓hv_apply, ↓upO_some, ↓upO_none, ↓ev_tmp, ↓ev_const, ↓ev_func, ↓ev_global, init, Nat.reduceEqDiff, Nat.reduceAdd, Nat.reduceMul, Nat.reduceSub, ↓reduceIte, Int.reduceEq, Int.reduceNe, Nat.reduceLeDiff, one, Value.cells, Int.reduceLE, Int.reduceLT, Int.reduceToNat, add_mk, reduceCtorEq, List.mem_range'_1, true_and, and_true, and_false, false_and, Nat.reduceLT, Nat.reduceLeDiff, tyF, cf hC16 7 (by decide), cf hC16 17 (by decide), cf hC16 18 (by decide), cf hC16 19 (by decide)]
  refine call_ok Tryz.call97 (box_new w16 (c.getD 7 0) (c.getD 17 0) (c.getD 18 0) (c.getD 19 0)) ?_
  rintro _ w17 ⟨hm17, hyes, _⟩
  obtain ⟨xb, xy, bx, xn, rfl, hxn, hxb, hxby, hxyi, hX1, hX2, hX3⟩ := hyes hbo
  have hX17 : BoxZ w17 (p + 1) bx c := ⟨xb, xy, xn, hxn, by omega, by omega, by omega, by omega, by omega, by omega, hX1, hX2, hX3⟩
  clear hyes hX1 hX2 hX3
  simp (config := {maxSteps := 1000000, implicitDefEqProofs := false}) only [↓zvN, zvU, ↓up_apply, ↓hv_apply, ↓upO_some, ↓upO_none, ↓ev_tmp, ↓ev_const, ↓ev_func, ↓ev_global, init, Nat.reduceEqDiff, Nat.reduceAdd, Nat.reduceMul, Nat.reduceSub, ↓reduceIte, Int.reduceEq, Int.reduceNe, Nat.reduceLeDiff, one, Value.cells, Int.reduceLE, Int.reduceLT, Int.reduceToNat, add_mk, reduceCtorEq, List.mem_range'_1, true_and, and_true, and_false, false_and, Nat.reduceLT, Nat.reduceLeDiff, tyF]
  refine st_cell (i := 27) (v := ptrV bx) (hP16.more hm17) (by rw [polCells_len hc]; decide) rfl fun w18 i18 hP18 => ?_
  rw [s2_undef]
  replace hP18 : Blk w18 p 141 (polCells c (ptrV g) (ptrV s) (ptrV q) (ptrV t) (ptrV x0) (ptrV x1) (ptrV wi) (ptrV bx) 0) := by
    have h := hP18
    unfold polCells at h
    rw [show (27 : Nat) = 20 + 7 from rfl, pol_set hc] at h
    exact h
  have f1618 : But p w16 w18 := (But.of_more hm17).trans (But.of_wr i18)
  have f1418 := f1416.trans f1618
  simp (config := {maxSteps := 1000000, implicitDefEqProofs := false}) only [↓zvN, zvU, ↓up_apply, ↓hv_apply, ↓upO_some, ↓upO_none, ↓ev_tmp, ↓ev_const, ↓ev_func, ↓ev_global, init, Nat.reduceEqDiff, Nat.reduceAdd, Nat.reduceMul, Nat.reduceSub, ↓reduceIte, Int.reduceEq, Int.reduceNe, Nat.reduceLeDiff, one, Value.cells, Int.reduceLE, Int.reduceLT, Int.reduceToNat, add_mk, reduceCtorEq, List.mem_range'_1, true_and, and_true, and_false, false_and, Nat.reduceLT, Nat.reduceLeDiff, tyF]
  exact ⟨Mod.more hm14 f1418 (fun k hk h => by omega), p, rfl, by omega, g, s, q, t, x0, x1, wi, bx, kt, by omega, hP18, gg, f1418.blk hG14 (by omega), hS14.but f1418 (by omega), hQ14.but f1418 (by omega), hT14.but f1418 (by omega), hB0.but f1418 (by omega), hB1.but f1418 (by omega), (hW15.but (But.of_wr i16) (by omega)).but f1618 (by omega), hX17.but (But.of_wr i18) (by omega)⟩
end Go.Proofs.YtahcaplhdgphcaaGreat
