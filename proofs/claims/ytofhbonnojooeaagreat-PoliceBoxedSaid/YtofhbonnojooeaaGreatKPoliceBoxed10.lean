/-
  Texts that the law stands on, part 10.
-/
import Derived.Test.YtofhbonnojooeaaGreatKPoliceBoxed9
import Derived.Laws.Externs
import Derived.Lib.Bytealg
import Derived.Lib.BytesEntry
namespace Go.Proofs.YtofhbonnojooeaaGreat
open Go Go.RowKit Go.Proofs.RV
set_option linter.unusedSimpArgs false
set_option linter.unusedVariables false
set_option maxRecDepth 10000
set_option maxHeartbeats 4000000
def polCells (c : List Int) (g s q t b0 b1 wi bx : Value) (n : Int) : List Value := ints c ++ [g, s, q, t, b0, b1, wi, bx, .int .i64 n]
def ptrV (q : Nat) : Value := .pointer (some ⟨q, 0, none⟩)
theorem polCells_len {c : List Int} (hc : c.length = 20) (g s q t b0 b1 wi bx : Value) (n : Int) : (polCells c g s q t b0 b1 wi bx n).length = 29 := by simp [polCells, ints_len, hc]
theorem pol_at {c : List Int} (hc : c.length = 20) (g s q t b0 b1 wi bx : Value) (n : Int) (k : Nat) : (polCells c g s q t b0 b1 wi bx n)[20 + k]? = [g, s, q, t, b0, b1, wi, bx, .int .i64 n][k]? := by
  unfold polCells
  rw [List.getElem?_append_right (by rw [ints_len, hc]; omega), ints_len, hc, Nat.add_sub_cancel_left]
theorem pol_cfg {c : List Int} (hc : c.length = 20) (g s q t b0 b1 wi bx : Value) (n : Int) {k : Nat} (hk : k < 20) : (polCells c g s q t b0 b1 wi bx n)[k]? = some (.int .i64 (c.getD k 0)) := by
  unfold polCells
  rw [List.getElem?_append_left (by rw [ints_len, hc]; exact hk)]
  exact ints_at (by omega)
theorem pol_set {c : List Int} (hc : c.length = 20) (r : List Value) (k : Nat) (v : Value) : (ints c ++ r).set (20 + k) v = ints c ++ r.set k v := by
  rw [List.set_append_right _ _ (by rw [ints_len, hc]; omega), ints_len, hc, Nat.add_sub_cancel_left]
theorem zerPol : zer Tryz.prog 133 = some (.agg (polCells (List.replicate 20 0) (.pointer none) (.pointer none) (.pointer none) (.pointer none) (.pointer none) (.pointer none) (.pointer none) (.pointer none) 0).toArray) := by rw [zer133]; rfl
theorem pol_build {c : List Int} (hc : c.length = 20) (w0 : World) (K : Value → Prop) : pureP Tryz.prog (Instr.build 133 #[(0, .agg (ints c).toArray)]) K = K (.agg (polCells c (.pointer none) (.pointer none) (.pointer none) (.pointer none) (.pointer none) (.pointer none) (.pointer none) (.pointer none) 0).toArray) := by
  refine build_of (P := Tryz.prog) (T := 133) _ (by kernel_rfl) zerPol ?_ w0 K
  refine laid_step (a := []) (b := ints (List.replicate 20 0)) (c := [.pointer none, .pointer none, .pointer none, .pointer none, .pointer none, .pointer none, .pointer none, .pointer none, .int .i64 0]) (vs := ints c) rfl rfl (by kernel_rfl) (by simp [ints_len, hc]) ?_
  rfl
def BoxF (B e : Nat) (cs : List Value) (v : Value) (w : World) : Prop := ∃ q, v = .pointer (some ⟨q, 0, none⟩) ∧ B ≤ q ∧ Blk w q e cs
theorem keepsX (B e : Nat) (cs : List Value) (v : Value) (a b : World) (h : More a b) (k : BoxF B e cs v a) : BoxF B e cs v b := by
  obtain ⟨q, h1, h2, h3⟩ := k
  exact ⟨q, h1, h2, h3.more h⟩
structure BlueZ (w : World) (B U q : Nat) (c : List Int) : Prop where
  lt : q < U
  ex : ∃ b n : Nat, (n : Int) = c.getD 2 0 * c.getD 3 0 ∧ B ≤ b ∧ B ≤ q ∧ b ≠ q ∧ b < U ∧ Blk w b 278 ((List.replicate n (BinM.mk 0 0 0)).flatMap BinM.cells) ∧
      Blk w q 236 [.slice (some ⟨b, 0, none⟩) n n, .int .i64 (c.getD 2 0), .int .i64 (c.getD 3 0), .int .i64 (c.getD 13 0), .int .i64 (c.getD 14 0), .int .i64 (c.getD 4 0), .int .i64 (c.getD 5 0)]
theorem BlueZ.but {w w' : World} {B U q p : Nat} {c : List Int} (h : BlueZ w B U q c) (hm : But p w w') (hp : p < B) : BlueZ w' B U q c := by
  obtain ⟨b, n, h1, h2, h3, h4, h7, h5, h6⟩ := h.ex
  exact ⟨h.lt, b, n, h1, h2, h3, h4, h7, hm.blk h5 (by omega), hm.blk h6 (by omega)⟩
structure QuotaZ (w : World) (B q : Nat) (c : List Int) (k : Nat) : Prop where
  ex : ∃ b : Nat, B ≤ b ∧ B ≤ q ∧ b ≠ q ∧ Blk w b 2 (ints (List.replicate k 0)) ∧ Blk w q 230 [.int .i64 (c.getD 9 0), .int .i64 (c.getD 10 0), .int .i64 0, .slice (some ⟨b, 0, none⟩) k k]
theorem QuotaZ.but {w w' : World} {B q p k : Nat} {c : List Int} (h : QuotaZ w B q c k) (hm : But p w w') (hp : p < B) : QuotaZ w' B q c k := by
  obtain ⟨b, h2, h3, h4, h5, h6⟩ := h.ex
  exact ⟨b, h2, h3, h4, hm.blk h5 (by omega), hm.blk h6 (by omega)⟩
structure TurnsZ (w : World) (B q : Nat) (c : List Int) (k : Nat) : Prop where
  ex : ∃ b y : Nat, B ≤ b ∧ B ≤ y ∧ B ≤ q ∧ b ≠ y ∧ b ≠ q ∧ y ≠ q ∧ Blk w b 272 ((List.replicate k (TurnM.mk false false 0)).flatMap TurnM.cells) ∧ Blk w y 3 (ints (List.replicate k 0)) ∧
      Blk w q 233 [.int .i64 (c.getD 8 0), .slice (some ⟨b, 0, none⟩) k k, .slice (some ⟨y, 0, none⟩) 0 k]
theorem TurnsZ.but {w w' : World} {B q p k : Nat} {c : List Int} (h : TurnsZ w B q c k) (hm : But p w w') (hp : p < B) : TurnsZ w' B q c k := by
  obtain ⟨b, y, h1, h2, h3, h4, h5, h6, h7, h8, h9⟩ := h.ex
  exact ⟨b, y, h1, h2, h3, h4, h5, h6, hm.blk h7 (by omega), hm.blk h8 (by omega), hm.blk h9 (by omega)⟩
structure WinZ (w : World) (B q : Nat) (c : List Int) : Prop where
  ex : ∃ (b y n : Nat) (cs : List Value), (n : Int) = c.getD 6 0 ∧ B ≤ b ∧ B ≤ y ∧ B ≤ q ∧ b ≠ y ∧ b ≠ q ∧ y ≠ q ∧ cs.length = n * 10 ∧ Blk w b 253 cs ∧
      Blk w y 335 [.slice (some ⟨b, 0, none⟩) 0 n, .int .i64 0] ∧ Blk w q 241 [.pointer (some ⟨y, 0, none⟩), .int .i64 (c.getD 15 0), .int .i64 (c.getD 16 0), .int .i64 0]
theorem WinZ.but {w w' : World} {B q p : Nat} {c : List Int} (h : WinZ w B q c) (hm : But p w w') (hp : p < B) : WinZ w' B q c := by
  obtain ⟨b, y, n, cs, h1, h2, h3, h4, h5, h6, h7, h8, h9, h10, h11⟩ := h.ex
  exact ⟨b, y, n, cs, h1, h2, h3, h4, h5, h6, h7, h8, hm.blk h9 (by omega), hm.blk h10 (by omega), hm.blk h11 (by omega)⟩
structure BoxZ (w : World) (B q : Nat) (c : List Int) : Prop where
  ex : ∃ b y n : Nat, (n : Int) = 2 * c.getD 7 0 ∧ B ≤ b ∧ B ≤ y ∧ B ≤ q ∧ b ≠ y ∧ b ≠ q ∧ y ≠ q ∧ Blk w b 344 ((List.replicate n (PlaceM.mk 0 prefZ [.int .i64 0, .pointer none])).flatMap PlaceM.cells) ∧
      Blk w y 338 [.slice (some ⟨b, 0, none⟩) n n, .int .i64 (c.getD 7 0), .int .i64 0] ∧ Blk w q 251 [.pointer (some ⟨y, 0, none⟩), .int .i64 (c.getD 17 0), .int .i64 (c.getD 18 0), .int .i64 (c.getD 19 0)]
theorem BoxZ.but {w w' : World} {B q p : Nat} {c : List Int} (h : BoxZ w B q c) (hm : But p w w') (hp : p < B) : BoxZ w' B q c := by
  obtain ⟨b, y, n, h1, h2, h3, h4, h5, h6, h7, h8, h9, h10⟩ := h.ex
  exact ⟨b, y, n, h1, h2, h3, h4, h5, h6, h7, hm.blk h8 (by omega), hm.blk h9 (by omega), hm.blk h10 (by omega)⟩
theorem StoreZ.but {w w' : World} {B p s sb sp cb cc cp y k m : Nat} (h : StoreZ w B s sb sp cb cc cp y k m) (hm : But p w w') (hp : p < B) : StoreZ w' B s sb sp cb cc cp y k m := by
  have g := h.ge
  exact ⟨hm.blk h.st (by omega), hm.blk h.bytes (by omega), hm.blk h.slab (by omega), hm.blk h.places (by omega), hm.blk h.chains (by omega), hm.blk h.lines (by omega), hm.blk h.links (by omega), g⟩
structure StZ (w : World) (B U s : Nat) (c : List Int) (k : Nat) : Prop where
  ex : ∃ sb sp cb cc cp y m : Nat, (m : Int) = c.getD 1 0 ∧ y < U ∧ StoreZ w B s sb sp cb cc cp y k m
theorem StZ.but {w w' : World} {B U s p k : Nat} {c : List Int} (h : StZ w B U s c k) (hm : But p w w') (hp : p < B) : StZ w' B U s c k := by
  obtain ⟨sb, sp, cb, cc, cp, y, m, h1, h3, h2⟩ := h.ex
  exact ⟨sb, sp, cb, cc, cp, y, m, h1, h3, h2.but hm hp⟩
structure PolZ (w : World) (B p : Nat) (c : List Int) (key : List UInt8) : Prop where
  ge : B ≤ p
  ex : ∃ g s q t x0 x1 wi bx k U V W : Nat, p < U ∧ p < V ∧ (k : Int) = 2 * c.getD 0 0 + 1 ∧ Blk w p 133 (polCells c (ptrV g) (ptrV s) (ptrV q) (ptrV t) (ptrV x0) (ptrV x1) (ptrV wi) (ptrV bx) 0) ∧
    p < g ∧ Blk w g 220 (GensM.mk (c.getD 0 0) key (noBytes 16) 0 false 0 0).cells ∧ StZ w (p + 1) U s c k ∧ QuotaZ w U q c k ∧ TurnsZ w (p + 1) t c k ∧ BlueZ w (p + 1) V x0 c ∧ BlueZ w V W x1 c ∧ WinZ w (p + 1) wi c ∧ BoxZ w (p + 1) bx c
def PolNewR (c : List Int) (key : List UInt8) (w : World) (v : Value) (w' : World) : Prop := More w w' ∧ ∃ p, v = .tuple #[.pointer (some ⟨p, 0, none⟩), .int .i64 0] ∧ PolZ w' w.heap.size p c key
def blueV (i : Nat) (x : Nat) (j : Nat) : Value := if j < i then ptrV x else .pointer none
def PolBl (w0 : World) (p a : Nat) (c : List Int) (g s q t : Nat) (v61 : Value) (w : World) : Prop := ∃ i x0 x1 V W : Nat, v61 = .int .i64 i ∧ i ≤ 2 ∧ But p w0 w ∧ p < V ∧ (0 < i → BlueZ w (p + 1) V x0 c ∧ V ≤ w.heap.size) ∧ (1 < i → BlueZ w V W x1 c) ∧
    Blk w p 133 (polCells c (ptrV g) (ptrV s) (ptrV q) (ptrV t) (blueV i x0 0) (blueV i x1 1) (.pointer none) (.pointer none) 0)
theorem police_new (w : World) (c : List Int) (key : List UInt8) (hc : c.length = 20) (hk : key.length = 16) (hr : rightM c) : Ret Tryz.prog 14 #[.agg (ints c).toArray, .agg (key.map byteV).toArray] w (PolNewR c key w) := by
  refine ret_of Tryz.func14 rfl (by kernel_rfl) (Nat.le_of_ble_eq_true (by kernel_rfl)) ?_
  obtain ⟨hbu, hpa, hqu, hns, hre, hsh, hcm, hbl, hwi, hbo⟩ := (parts_right c).1 hr
  simp -implicitDefEqProofs (maxSteps := 1000000) only [↓zvN, zvU, ↓zvE, zvM, init, one, Value.cells, simprocAttr, tyF]
  have hm1 := more_alloc w (.cells (ints c).toArray 23)
  have hC1 := Blk.new w 23 (ints c).toArray
  obtain ⟨w1, hw1⟩ : ∃ w1, w.alloc (.cells (ints c).toArray 23) = w1 := ⟨_, rfl⟩
  have s1 := size_alloc w (.cells (ints c).toArray 23)
  have hw1' := hw1
  rw [hw1] at hm1 hC1 s1 ⊢
  clear hw1
  rw [List.toList_toArray] at hC1
  have hm2 := more_alloc w1 (.cells (key.map byteV).toArray 24)
  have hK2 := Blk.new w1 24 (key.map byteV).toArray
  have s2 := size_alloc w1 (.cells (key.map byteV).toArray 24)
  obtain ⟨w2, hw2⟩ : ∃ w2, w1.alloc (.cells (key.map byteV).toArray 24) = w2 := ⟨_, rfl⟩
  rw [hw2] at hm2 hK2 s2 ⊢
  clear hw2
  rw [List.toList_toArray] at hK2
  obtain ⟨a, ha⟩ : ∃ a, w.heap.size = a := ⟨_, rfl⟩
  rw [ha] at hC1 s1 ⊢
  obtain ⟨y, hy⟩ : ∃ y, w1.heap.size = y := ⟨_, rfl⟩
  rw [← hw1'] at hy
  have hy' := hy
  rw [hw1'] at hy
  clear hw1'
  rw [hy] at hK2 s2 s1
  have hC2 := hC1.more hm2
  have cl := hC2.all_eq 20 (by rw [ints_len, hc])
  simp -implicitDefEqProofs (maxSteps := 1000000) only [↓zvN, zvU, ↓zvE, zvM, init, one, Value.cells, simprocAttr, tyF, cl]
  refine call_ok Tryz.call46 (config_right w2 c hc) ?_
  rintro _ w3 ⟨rfl, hm3⟩
  rw [decide_eq_true hr]
  have hC3 := hC2.more hm3
  have hK3 := hK2.more hm3
  simp -implicitDefEqProofs (maxSteps := 1000000) only [↓zvN, zvU, ↓zvE, zvM, init, one, Value.cells, simprocAttr, tyF]
  obtain ⟨n, hn⟩ : ∃ n : Nat, (n : Int) = c.getD 0 0 := ⟨(c.getD 0 0).toNat, by omega⟩
  have cf : ∀ {w' : World}, Blk w' a 23 (ints c) → ∀ k, k < 20 → w'.cell? ⟨a, k, none⟩ = some (.int .i64 (c.getD k 0)) := fun h k hk => by rw [h.cell]; exact ints_at (by omega)
  have e1 : IntKind.i64.wrap (2 * c.getD 0 0) = 2 * c.getD 0 0 := w64 (by omega) (by omega)
  have e2 : IntKind.i64.wrap (2 * c.getD 0 0 + 1) = 2 * c.getD 0 0 + 1 := w64 (by omega) (by omega)
  have bp := pol_build hc w3
  have cl3 := hC3.all_eq 20 (by rw [ints_len, hc])
  have s3 := hm3.size
  have al := hC3.lt
  refine draw_seen 8 [[], [0], [0, 1], [], [3], [3, 4], [3, 4, 5], [0, 1, 2], [0, 1, 2, 3, 4, 5, 6, 7]] (RV.look [(2, BoxF w3.heap.size 133 (polCells c (.pointer none) (.pointer none) (.pointer none) (.pointer none) (.pointer none) (.pointer none) (.pointer none) (.pointer none) 0))]) mixed (by kernel_rfl) (by kernel_rfl) (look_keeps _ (by
    intro z hz
    simp only [List.mem_cons, List.not_mem_nil, or_false] at hz
    rcases hz with rfl
    exact keepsX _ _ _)) ?_
  simp -implicitDefEqProofs (maxSteps := 1000000) only [↓zvN, zvU, ↓zqD, ↓zvE, zvM, init, one, Value.cells, simprocAttr, tyF, cl3, cf hC3 0 (by decide), al, bp, e1, e2]
  refine ⟨fun w4 hm4 => ⟨more_alloc _ _, _, rfl, hm4.size, by simpa using Blk.new w4 133 (polCells c (.pointer none) (.pointer none) (.pointer none) (.pointer none) (.pointer none) (.pointer none) (.pointer none) (.pointer none) 0).toArray⟩, ?_⟩
  rintro _ ⟨w4, hm4, p, rfl, hp, _⟩
  simp -implicitDefEqProofs (maxSteps := 1000000) only [↓zvN, zvU, ↓zqD, ↓zvE, zvM, init, one, Value.cells, simprocAttr, tyF, cl3, cf hC3 0 (by decide), al, bp, e1, e2]
  rintro w5 hm5 ⟨p', e5, _, hP5⟩
  cases e5
  have ap : a < p := by omega
  have yp : y < p := by have := hK3.lt; omega
  have hm05 : More w w5 := ((hm1.trans hm2).trans hm3).trans hm5
  have hC5 := hC3.more hm5
  have hK5 := hK3.more hm5
  have k5 := hK5.all_eq 16 (by simp [hk])
  have hpl := hP5.lt
  simp -implicitDefEqProofs (maxSteps := 1000000) only [↓zvN, zvU, ↓zvE, zvM, init, one, Value.cells, simprocAttr, tyF, p_nil, cf hC5 0 (by decide), hy', k5]
  refine call_ok Tryz.call47 (gens_new w5 (c.getD 0 0) key hk) ?_
  rintro _ w6 ⟨hm6, hyes, _⟩
  obtain ⟨g, rfl, hg, hG6⟩ := hyes hbu
  simp -implicitDefEqProofs (maxSteps := 1000000) only [↓zvN, zvU, ↓zvE, zvM, init, one, Value.cells, simprocAttr, tyF]
  refine st_cell (i := 20) (v := ptrV g) (hP5.more hm6) (by rw [polCells_len hc]; decide) rfl fun w7 i7 hP7 => ?_
  rw [s2_undef]
  replace hP7 : Blk w7 p 133 (polCells c (ptrV g) (.pointer none) (.pointer none) (.pointer none) (.pointer none) (.pointer none) (.pointer none) (.pointer none) 0) := by
    have h := hP7
    unfold polCells at h
    rw [show (20 : Nat) = 20 + 0 from rfl, pol_set hc] at h
    exact h
  have f57 : But p w5 w7 := (But.of_more hm6).trans (But.of_wr i7)
  have hG7 := i7.blk hG6 (by omega)
  have hC7 := f57.blk hC5 (by omega)
  have s57 := f57.size
  simp -implicitDefEqProofs (maxSteps := 1000000) only [↓zvN, zvU, ↓zvE, zvM, init, one, Value.cells, simprocAttr, tyF, cf hC7 1 (by decide), e1, e2]
  refine call_ok Tryz.call48 (store_new w7 (2 * c.getD 0 0 + 1) (c.getD 1 0) ⟨by omega, hpa⟩) ?_
  rintro _ w8 ⟨hm8, s, sb, sp, cb, cc, cp, y8, k, m, rfl, hkk, hmm, hS8⟩
  have gg : p < g := by have := hm6.size; have := hP5.lt; omega
  have pw7 : p + 1 ≤ w7.heap.size := by have := hP7.lt; omega
  obtain ⟨U8, hU8⟩ : ∃ U8, w8.heap.size = U8 := ⟨_, rfl⟩
  have hU8p : p < U8 := by have := hm8.size; omega
  have hS8 : StZ w8 (p + 1) U8 s c k := ⟨sb, sp, cb, cc, cp, y8, m, hmm, by have := hS8.bytes.lt; omega, hS8.st, hS8.bytes, hS8.slab, hS8.places, hS8.chains, hS8.lines, hS8.links, by have := hS8.ge; omega⟩
  clear hyes
  simp -implicitDefEqProofs (maxSteps := 1000000) only [↓zvN, zvU, ↓zvE, zvM, init, one, Value.cells, simprocAttr, tyF]
  refine st_cell (i := 21) (v := ptrV s) (hP7.more hm8) (by rw [polCells_len hc]; decide) rfl fun w9 i9 hP9 => ?_
  rw [s2_undef]
  replace hP9 : Blk w9 p 133 (polCells c (ptrV g) (ptrV s) (.pointer none) (.pointer none) (.pointer none) (.pointer none) (.pointer none) (.pointer none) 0) := by
    have h := hP9
    unfold polCells at h
    rw [show (21 : Nat) = 20 + 1 from rfl, pol_set hc] at h
    exact h
  have f79 : But p w7 w9 := (But.of_more hm8).trans (But.of_wr i9)
  have hG9 := f79.blk hG7 (by omega)
  have hC9 := f79.blk hC7 (by omega)
  have hS9 := hS8.but (But.of_wr i9) (by omega)
  have s79 := f79.size
  simp -implicitDefEqProofs (maxSteps := 1000000) only [↓zvN, zvU, ↓zvE, zvM, init, one, Value.cells, simprocAttr, tyF, cf hC9 9 (by decide), cf hC9 10 (by decide), e1, e2]
  refine call_ok Tryz.call49 (quota_new w9 (2 * c.getD 0 0 + 1) (c.getD 9 0) (c.getD 10 0) ⟨by omega, hre, hsh⟩) ?_
  rintro _ w10 ⟨hm10, hyes⟩
  obtain ⟨ql, q, kq, rfl, hkq, hql, hqq, hQ1, hQ2⟩ := hyes ⟨by omega, hre, hsh⟩
  obtain rfl : kq = k := by omega
  have hQ10 : QuotaZ w10 U8 q c kq := ⟨ql, by have := i9.size; omega, by have := i9.size; omega, by omega, hQ1, hQ2⟩
  clear hyes hQ1 hQ2
  simp -implicitDefEqProofs (maxSteps := 1000000) only [↓zvN, zvU, ↓zvE, zvM, init, one, Value.cells, simprocAttr, tyF]
  refine st_cell (i := 22) (v := ptrV q) (hP9.more hm10) (by rw [polCells_len hc]; decide) rfl fun w11 i11 hP11 => ?_
  rw [s2_undef]
  replace hP11 : Blk w11 p 133 (polCells c (ptrV g) (ptrV s) (ptrV q) (.pointer none) (.pointer none) (.pointer none) (.pointer none) (.pointer none) 0) := by
    have h := hP11
    unfold polCells at h
    rw [show (22 : Nat) = 20 + 2 from rfl, pol_set hc] at h
    exact h
  have f911 : But p w9 w11 := (But.of_more hm10).trans (But.of_wr i11)
  have hG11 := f911.blk hG9 (by omega)
  have hC11 := f911.blk hC9 (by omega)
  have hS11 := hS9.but f911 (by omega)
  have hQ11 := hQ10.but (But.of_wr i11) (by omega)
  have s911 := f911.size
  simp -implicitDefEqProofs (maxSteps := 1000000) only [↓zvN, zvU, ↓zvE, zvM, init, one, Value.cells, simprocAttr, tyF, cf hC11 8 (by decide), e1, e2]
  refine call_ok Tryz.call50 (turns_new w11 (2 * c.getD 0 0 + 1) (c.getD 8 0) ⟨by omega, by omega⟩) ?_
  rintro _ w12 ⟨hm12, hyes⟩
  obtain ⟨tb, ty, t, kt, rfl, hkt, htb, hty, hne, ht1, ht2, hT1, hT2, hT3⟩ := hyes ⟨by omega, by omega⟩
  obtain rfl : kt = kq := by omega
  have hT12 : TurnsZ w12 (p + 1) t c kt := ⟨tb, ty, by omega, by omega, by omega, hne, by omega, by omega, hT1, hT2, hT3⟩
  clear hyes hT1 hT2 hT3
  simp -implicitDefEqProofs (maxSteps := 1000000) only [↓zvN, zvU, ↓zvE, zvM, init, one, Value.cells, simprocAttr, tyF]
  refine st_cell (i := 23) (v := ptrV t) (hP11.more hm12) (by rw [polCells_len hc]; decide) rfl fun w13 i13 hP13 => ?_
  rw [s2_undef]
  replace hP13 : Blk w13 p 133 (polCells c (ptrV g) (ptrV s) (ptrV q) (ptrV t) (.pointer none) (.pointer none) (.pointer none) (.pointer none) 0) := by
    have h := hP13
    unfold polCells at h
    rw [show (23 : Nat) = 20 + 3 from rfl, pol_set hc] at h
    exact h
  have f1113 : But p w11 w13 := (But.of_more hm12).trans (But.of_wr i13)
  have hG13 := f1113.blk hG11 (by omega)
  have hC13 := f1113.blk hC11 (by omega)
  have hS13 := hS11.but f1113 (by omega)
  have hQ13 := hQ11.but f1113 (by omega)
  have hT13 := hT12.but (But.of_wr i13) (by omega)
  have s1113 := f1113.size
  have hm13 : More w w13 := by
    have h7 : More w w7 := i7.below (hm05.trans hm6) (by omega : w.heap.size ≤ p)
    have h9 : More w w9 := i9.below (h7.trans hm8) (by omega : w.heap.size ≤ p)
    have h11 : More w w11 := i11.below (h9.trans hm10) (by omega : w.heap.size ≤ p)
    exact i13.below (h11.trans hm12) (by omega : w.heap.size ≤ p)
  clear hK2 hK3 hK5 hP5 hP7 hP9 hP11 hC1 hC2 hC3 hC5 hC7 hC9 hC11 hG6 hG7 hG9 hG11 hS8 hS9 hS11 hQ10 hQ11 hT12 bp cl cl3 k5
  simp -implicitDefEqProofs (maxSteps := 1000000) only [↓zvN, zvU, ↓zvE, zvM, init, one, Value.cells, simprocAttr, tyF]
  refine loop_p (8 :: List.range' 61 25) (fun e w' => PolBl w13 p a c g s q t (e 61) w') (fun e _ => 2 - (numOf (e 61)).toNat) ?_ ?_
  · exact ⟨0, 0, 0, p + 1, 0, by simp only [hv_apply, up_apply, upO_some, upO_none, init, List.mem_cons, List.mem_range'_1, true_and, and_true, and_false, false_and, Nat.reduceLT, Nat.reduceLeDiff, Nat.reduceAdd, true_or, or_true, if_true, if_false, ↓reduceIte, Nat.reduceEqDiff, false_or, or_false, List.not_mem_nil, List.getElem?_cons_zero, List.getElem?_cons_succ, Option.getD_some] <;> rfl, by omega, But.refl _ _, by omega, (fun h => by omega), (fun h => by omega), hP13⟩
  rintro v w14 ⟨i, x0, x1, V, W, h61, hi, f14, hVp, hx0, hx1, hP14⟩
  simp only [hv_apply, up_apply, upO_some, upO_none, init, List.mem_cons, List.mem_range'_1, true_and, and_true, and_false, false_and, Nat.reduceLT, Nat.reduceLeDiff, Nat.reduceAdd, true_or, or_true, if_true, if_false, ↓reduceIte, Nat.reduceEqDiff, false_or, or_false, List.not_mem_nil, List.getElem?_cons_zero, List.getElem?_cons_succ, Option.getD_some] at h61
  have ei : IntKind.i64.wrap ((i : Int) + 1) = ((i + 1 : Nat) : Int) := w64 (by omega) (by omega)
  simp -implicitDefEqProofs (maxSteps := 1000000) only [↓zvN, zvU, ↓zvE, zvM, init, one, Value.cells, simprocAttr, tyF, h61]
  refine ⟨fun h9 => ?_, fun h9 => ?_⟩
  · have g0 : (0 : Int) ≤ (i : Int) := by omega
    have hC14 := f14.blk hC13 (by omega)
    have pw14 : p < w14.heap.size := hP14.lt
    refine draw_line p (KeepF p fun _ => False) [0, 0, 0, 0, 0, 0, 0, 0, 0, 0, 0, 0, 0, 0, 1, 0, 0, 0, 0, 0, 0, 1] [[], [], [], [2], [], [4], [], [6], [], [8], [], [10], [], [12], [2, 3, 4, 5, 6, 7, 8, 9, 10, 11, 12, 13], [2, 3, 4, 5, 6, 7, 8, 9, 10, 11, 12, 13, 14], [2, 3, 4, 5, 6, 7, 8, 9, 10, 11, 12, 13, 14, 15], [2, 3, 4, 5, 6, 7, 8, 9, 10, 11, 12, 13, 14, 15], [0], [0, 18], [0, 1, 2, 3, 4, 5, 6, 7, 8, 9, 10, 11, 12, 13, 14, 15, 16, 18, 19], [0, 1, 2, 3, 4, 5, 6, 7, 8, 9, 10, 11, 12, 13, 14, 15, 16, 18, 19, 20]] mixed (by kernel_rfl) (by kernel_rfl) (KeepF.refl _ _ _) (fun w' h => KeepF.of_more h (by omega) (fun _ h => h.elim)) (fun w' h => h.1) ?_
    intro w15 hm15
    simp -implicitDefEqProofs (maxSteps := 1000000) only [↓zvN, zvU, ↓zqD, ↓sk_nil, ↓sk_cons, ↓sk_guard, ↓sk_zero, ↓sk_one, ↓sk_two, ↓zvE, zvM, init, one, Value.cells, simprocAttr, tyF, cf hC14 2 (by decide), cf hC14 3 (by decide), cf hC14 13 (by decide), cf hC14 14 (by decide), cf hC14 4 (by decide), cf hC14 5 (by decide), ap, h61]
    refine call_ok Tryz.call51 (blue_new w15 (c.getD 2 0) (c.getD 3 0) (c.getD 13 0) (c.getD 14 0) (c.getD 4 0) (c.getD 5 0)) ?_
    rintro _ w16 ⟨hm16, hyes, _⟩
    obtain ⟨bb, x, nb, rfl, hnb, hbb, hbx, hB1, hB2⟩ := hyes hbl
    have hm1416 := hm15.trans hm16
    have hk16 : KeepF p (fun _ => False) w14 w16 := KeepF.of_more hm1416 (by omega) (fun _ h => h.elim)
    have s15 := hm15.size
    have hXg : ∀ B, B ≤ w14.heap.size → BlueZ w16 B w16.heap.size x c := fun B hB => ⟨hB2.lt, bb, nb, hnb, by omega, by omega, by omega, hB1.lt, hB1, hB2⟩
    clear hyes hB1 hB2
    simp -implicitDefEqProofs (maxSteps := 1000000) only [↓zvN, zvU, ↓zqD, ↓sk_nil, ↓sk_cons, ↓sk_guard, ↓sk_zero, ↓sk_one, ↓sk_two, ↓zvE, zvM, init, one, Value.cells, simprocAttr, tyF, cf hC14 2 (by decide), ap, h61, g0, h9, Int.toNat_natCast]
    refine ⟨hk16, ?_⟩
    refine st_cell (i := 24 + i) (v := ptrV x) (hP14.more hm1416) (by rw [polCells_len hc]; omega) rfl fun w17 i17 hP17 => ?_
    rw [s2_undef]
    have hk17 : KeepF p (fun _ => False) w14 w17 := ⟨hk16.1.trans (i17.below (Below.refl _ _) (Nat.le_refl _)), fun _ h => h.elim⟩
    have f1417 : But p w14 w17 := (But.of_more hm1416).trans (But.of_wr i17)
    have hX17 : ∀ B, p < B → B ≤ w14.heap.size → BlueZ w17 B w16.heap.size x c := fun B hp hB => (hXg B hB).but (But.of_wr i17) hp
    have s1617 := i17.size
    have sp16 : p < w16.heap.size := by have := hm1416.size; omega
    refine ⟨hk17, ?_⟩
    try simp -implicitDefEqProofs (maxSteps := 1000000) only [↓zvN, zvU, ↓zqD, ↓sk_nil, ↓sk_cons, ↓sk_guard, ↓sk_zero, ↓sk_one, ↓sk_two, ↓zvE, zvM, init, one, Value.cells, simprocAttr, tyF, h61, ei]
    try simp -implicitDefEqProofs (maxSteps := 1000000) only [↓zvN, zvU, ↓zvE, zvM, init, one, Value.cells, simprocAttr, tyF, h61, ei]
    have h2 : i = 0 ∨ i = 1 := by omega
    rcases h2 with rfl | rfl
    · refine ⟨⟨?_, 1, x, x1, w16.heap.size, W, rfl, by omega, f14.trans f1417, sp16, (fun _ => ⟨hX17 _ (by omega) (by omega), by omega⟩), (fun h => by omega), ?_⟩, by simp only [numOf]; omega⟩
      · repeat (first | exact Same.hv _ _ _ | refine Same.hv2 (fun s hs => mem_allS (by decide) hs) ?_ | refine Same.up (by simp) ?_)
      · have h := hP17
        unfold polCells at h
        rw [show (24 + 0 : Nat) = 20 + 4 from rfl, pol_set hc] at h
        exact h
    · refine ⟨⟨?_, 2, x0, x, V, w16.heap.size, rfl, by omega, f14.trans f1417, hVp, (fun _ => ⟨(hx0 (by omega)).1.but f1417 (by omega), by have := (hx0 (by omega)).2; have := f1417.size; omega⟩), (fun _ => hX17 _ hVp (hx0 (by omega)).2), ?_⟩, by simp only [numOf]; omega⟩
      · repeat (first | exact Same.hv _ _ _ | refine Same.hv2 (fun s hs => mem_allS (by decide) hs) ?_ | refine Same.up (by simp) ?_)
      · have h := hP17
        unfold polCells at h
        rw [show (24 + 1 : Nat) = 20 + 5 from rfl, pol_set hc] at h
        exact h
  obtain rfl : i = 2 := by omega
  have hB0 := (hx0 (by omega)).1
  have hB1 := hx1 (by omega)
  have hC14 := f14.blk hC13 (by omega)
  have hG14 := f14.blk hG13 (by omega)
  have hS14 := hS13.but f14 (by omega)
  have hQ14 := hQ13.but f14 (by omega)
  have hT14 := hT13.but f14 (by omega)
  have s14 := f14.size
  have hm14 : More w w14 := Mod.more hm13 f14 (fun k hk h => by omega)
  replace hP14 : Blk w14 p 133 (polCells c (ptrV g) (ptrV s) (ptrV q) (ptrV t) (ptrV x0) (ptrV x1) (.pointer none) (.pointer none) 0) := hP14
  clear hx0 hx1 hG13 hS13 hQ13 hT13 hC13 hP13
  simp -implicitDefEqProofs (maxSteps := 1000000) only [↓zvN, zvU, ↓zvE, zvM, init, one, Value.cells, simprocAttr, tyF, cf hC14 6 (by decide), cf hC14 15 (by decide), cf hC14 16 (by decide)]
  refine call_ok Tryz.call52 (window_new w14 (c.getD 6 0) (c.getD 15 0) (c.getD 16 0)) ?_
  rintro _ w15 ⟨hm15, hyes, _⟩
  obtain ⟨wb, wy, wi, wn, wcs, rfl, hwn, hwb, hwby, hwyi, hwcl, hW1, hW2, hW3⟩ := hyes hwi
  have hW15 : WinZ w15 (p + 1) wi c := ⟨wb, wy, wn, wcs, hwn, by omega, by omega, by omega, by omega, by omega, by omega, hwcl, hW1, hW2, hW3⟩
  clear hyes hW1 hW2 hW3
  simp -implicitDefEqProofs (maxSteps := 1000000) only [↓zvN, zvU, ↓zvE, zvM, init, one, Value.cells, simprocAttr, tyF]
  refine st_cell (i := 26) (v := ptrV wi) (hP14.more hm15) (by rw [polCells_len hc]; decide) rfl fun w16 i16 hP16 => ?_
  rw [s2_undef]
  replace hP16 : Blk w16 p 133 (polCells c (ptrV g) (ptrV s) (ptrV q) (ptrV t) (ptrV x0) (ptrV x1) (ptrV wi) (.pointer none) 0) := by
    have h := hP16
    unfold polCells at h
    rw [show (26 : Nat) = 20 + 6 from rfl, pol_set hc] at h
    exact h
  have f1416 : But p w14 w16 := (But.of_more hm15).trans (But.of_wr i16)
  have hC16 := f1416.blk hC14 (by omega)
  have s1416 := f1416.size
  simp -implicitDefEqProofs (maxSteps := 1000000) only [↓zvN, zvU, ↓zvE, zvM, init, one, Value.cells, simprocAttr, tyF, cf hC16 7 (by decide), cf hC16 17 (by decide), cf hC16 18 (by decide), cf hC16 19 (by decide)]
  refine call_ok Tryz.call53 (box_new w16 (c.getD 7 0) (c.getD 17 0) (c.getD 18 0) (c.getD 19 0)) ?_
  rintro _ w17 ⟨hm17, hyes, _⟩
  obtain ⟨xb, xy, bx, xn, rfl, hxn, hxb, hxby, hxyi, hX1, hX2, hX3⟩ := hyes hbo
  have hX17 : BoxZ w17 (p + 1) bx c := ⟨xb, xy, xn, hxn, by omega, by omega, by omega, by omega, by omega, by omega, hX1, hX2, hX3⟩
  clear hyes hX1 hX2 hX3
  simp -implicitDefEqProofs (maxSteps := 1000000) only [↓zvN, zvU, ↓zvE, zvM, init, one, Value.cells, simprocAttr, tyF]
  refine st_cell (i := 27) (v := ptrV bx) (hP16.more hm17) (by rw [polCells_len hc]; decide) rfl fun w18 i18 hP18 => ?_
  rw [s2_undef]
  replace hP18 : Blk w18 p 133 (polCells c (ptrV g) (ptrV s) (ptrV q) (ptrV t) (ptrV x0) (ptrV x1) (ptrV wi) (ptrV bx) 0) := by
    have h := hP18
    unfold polCells at h
    rw [show (27 : Nat) = 20 + 7 from rfl, pol_set hc] at h
    exact h
  have f1618 : But p w16 w18 := (But.of_more hm17).trans (But.of_wr i18)
  have f1418 := f1416.trans f1618
  simp -implicitDefEqProofs (maxSteps := 1000000) only [↓zvN, zvU, ↓zvE, zvM, init, one, Value.cells, simprocAttr, tyF]
  exact ⟨Mod.more hm14 f1418 (fun k hk h => by omega), p, rfl, by omega, g, s, q, t, x0, x1, wi, bx, kt, U8, V, W, hU8p, hVp, by omega, hP18, gg, f1418.blk hG14 (by omega), hS14.but f1418 (by omega), hQ14.but f1418 (by omega), hT14.but f1418 (by omega), hB0.but f1418 (by omega), hB1.but f1418 (by omega), (hW15.but (But.of_wr i16) (by omega)).but f1618 (by omega), hX17.but (But.of_wr i18) (by omega)⟩
structure StA where
  s : Nat
  y : Nat
  sp : Nat
  sb : Nat
  cp : Nat
  cb : Nat
  cc : Nat
def StA.own (a : StA) (k : Nat) : Prop := k = a.y ∨ duo a.sp a.sb k ∨ duo a.cb a.cc k
def bytesM (cl : List PackM) : Int := (cl.map PackM.len).sum
structure StoreW (w : World) (a : StA) (cls : Cls) (m : Nat) : Prop where
  st : Blk w a.s 228 [ptrV a.sp, ptrV a.cp, .slice (some ⟨a.y, 0, none⟩) cls.length cls.length]
  bytes : Blk w a.y 2 (ints (cls.map bytesM))
  ex : ∃ paths fl ls ks ps first free, StInv cls m paths fl ls ks ps first free ∧ SlabW w a.sp a.sb ps first free ∧ ChR w a.cp a.cb a.cc ls ks
theorem ChR.mod {w w' : World} {S : Nat → Prop} {cp cb cc : Nat} {ls : List LineM} {ks : List LinkM} (h : ChR w cp cb cc ls ks) (hm : Mod S w w') (h1 : ¬ S cp) (h2 : ¬ S cb) (h3 : ¬ S cc) : ChR w' cp cb cc ls ks := ⟨hm.blk h.blk h1, hm.blk h.lines h2, hm.blk h.links h3, h.ll, h.kl⟩
theorem StoreW.more {w w' : World} {a : StA} {cls : Cls} {m : Nat} (h : StoreW w a cls m) (hm : More w w') : StoreW w' a cls m := by
  obtain ⟨paths, fl, ls, ks, ps, first, free, h1, h2, h3⟩ := h.ex
  exact ⟨h.st.more hm, h.bytes.more hm, paths, fl, ls, ks, ps, first, free, h1, h2.more hm, h3.more hm⟩
theorem StoreW.mod {w w' : World} {S : Nat → Prop} {a : StA} {cls : Cls} {m : Nat} (h : StoreW w a cls m) (hm : Mod S w w') (hs : ¬ S a.s) (hc : ¬ S a.cp) (ho : ∀ k, a.own k → ¬ S k) : StoreW w' a cls m := by
  obtain ⟨paths, fl, ls, ks, ps, first, free, h1, h2, h3⟩ := h.ex
  exact ⟨hm.blk h.st hs, hm.blk h.bytes (ho _ (.inl rfl)), paths, fl, ls, ks, ps, first, free, h1, h2.mod hm (ho _ (.inr (.inl (.inl rfl)))) (ho _ (.inr (.inl (.inr rfl)))), h3.mod hm hc (ho _ (.inr (.inr (.inl rfl)))) (ho _ (.inr (.inr (.inr rfl))))⟩
theorem StoreW.types {w : World} {a : StA} {cls : Cls} {m : Nat} (h : StoreW w a cls m) : ∀ k, a.own k → ∃ T cs, Blk w k T cs ∧ (T = 2 ∨ T = 330 ∨ T = 332 ∨ T = 325 ∨ T = 327) := by
  obtain ⟨paths, fl, ls, ks, ps, first, free, h1, h2, h3⟩ := h.ex
  rintro k (rfl | (rfl | rfl) | (rfl | rfl))
  · exact ⟨_, _, h.bytes, .inl rfl⟩
  · exact ⟨_, _, h2.blk, .inr (.inl rfl)⟩
  · exact ⟨_, _, h2.rows, .inr (.inr (.inl rfl))⟩
  · exact ⟨_, _, h3.lines, .inr (.inr (.inr (.inl rfl)))⟩
  · exact ⟨_, _, h3.links, .inr (.inr (.inr (.inr rfl)))⟩
theorem StoreW.lt {w : World} {a : StA} {cls : Cls} {m : Nat} (h : StoreW w a cls m) : ∀ k, a.own k → k < w.heap.size := by
  intro k hk
  obtain ⟨T, cs, h1, _⟩ := h.types k hk
  exact h1.lt
theorem nodup_types {w : World} : ∀ (l : List (Nat × Nat)), (∀ x ∈ l, ∃ cs, Blk w x.1 x.2 cs) → (l.map Prod.snd).Nodup → (l.map Prod.fst).Nodup
  | [], _, _ => List.nodup_nil
  | x :: l, h, hn => by
    rw [List.map_cons, List.nodup_cons] at hn ⊢
    refine ⟨fun hm => hn.1 ?_, nodup_types l (fun y hy => h y (by simp [hy])) hn.2⟩
    obtain ⟨y, hy, e⟩ := List.mem_map.1 hm
    obtain ⟨cs, h1⟩ := h x (by simp)
    obtain ⟨cs', h2⟩ := h y (by simp [hy])
    rw [e] at h2
    rw [blk_ty h1 h2]
    exact List.mem_map.2 ⟨y, hy, rfl⟩
theorem StoreW.sep {w : World} {a : StA} {cls : Cls} {m : Nat} (h : StoreW w a cls m) : [a.s, a.y, a.sp, a.sb, a.cp, a.cb, a.cc].Nodup := by
  obtain ⟨paths, fl, ls, ks, ps, first, free, h1, h2, h3⟩ := h.ex
  refine nodup_types (w := w) [(a.s, 228), (a.y, 2), (a.sp, 330), (a.sb, 332), (a.cp, 323), (a.cb, 325), (a.cc, 327)] ?_ (by simp only [List.map_cons, List.map_nil]; decide)
  intro x hx
  simp only [List.mem_cons, List.not_mem_nil, or_false] at hx
  rcases hx with rfl | rfl | rfl | rfl | rfl | rfl | rfl
  · exact ⟨_, h.st⟩
  · exact ⟨_, h.bytes⟩
  · exact ⟨_, h2.blk⟩
  · exact ⟨_, h2.rows⟩
  · exact ⟨_, h3.blk⟩
  · exact ⟨_, h3.lines⟩
  · exact ⟨_, h3.links⟩
structure SepS (a : StA) : Prop where
  s_slab : ¬ duo a.sp a.sb a.s
  y_slab : ¬ duo a.sp a.sb a.y
  cp_slab : ¬ duo a.sp a.sb a.cp
  cb_slab : ¬ duo a.sp a.sb a.cb
  cc_slab : ¬ duo a.sp a.sb a.cc
  s_ch : ¬ duo a.cb a.cc a.s
  y_ch : ¬ duo a.cb a.cc a.y
  sp_ch : ¬ duo a.cb a.cc a.sp
  sb_ch : ¬ duo a.cb a.cc a.sb
  cp_ch : ¬ duo a.cb a.cc a.cp
  s_y : a.s ≠ a.y
  sp_y : a.sp ≠ a.y
  sb_y : a.sb ≠ a.y
  cp_y : a.cp ≠ a.y
  cb_y : a.cb ≠ a.y
  cc_y : a.cc ≠ a.y
theorem StoreW.sepS {w : World} {a : StA} {cls : Cls} {m : Nat} (h : StoreW w a cls m) : SepS a := by
  have hs := h.sep
  simp only [List.nodup_cons, List.mem_cons, List.not_mem_nil, or_false, not_or, List.nodup_nil, and_true, not_false_eq_true] at hs
  obtain ⟨⟨a1, a2, a3, a4, a5, a6⟩, ⟨b1, b2, b3, b4, b5⟩, ⟨c1, c2, c3, c4⟩, ⟨d1, d2, d3⟩, ⟨e1, e2⟩, f1⟩ := hs
  exact ⟨fun h => h.elim a2 a3, fun h => h.elim b1 b2, fun h => h.elim (fun e => c2 e.symm) (fun e => d1 e.symm), fun h => h.elim (fun e => c3 e.symm) (fun e => d2 e.symm), fun h => h.elim (fun e => c4 e.symm) (fun e => d3 e.symm),
    fun h => h.elim a5 a6, fun h => h.elim b4 b5, fun h => h.elim c3 c4, fun h => h.elim d2 d3, fun h => h.elim e1 e2, a1, fun e => b1 e.symm, fun e => b2 e.symm, fun e => b3 e.symm, fun e => b4 e.symm, fun e => b5 e.symm⟩
theorem StoreW.c0 {w : World} {a : StA} {cls : Cls} {m : Nat} (h : StoreW w a cls m) : w.cell? ⟨a.s, 0, none⟩ = some (.pointer (some ⟨a.sp, 0, none⟩)) := by rw [h.st.cell]; rfl
theorem StoreW.c1 {w : World} {a : StA} {cls : Cls} {m : Nat} (h : StoreW w a cls m) : w.cell? ⟨a.s, 1, none⟩ = some (.pointer (some ⟨a.cp, 0, none⟩)) := by rw [h.st.cell]; rfl
theorem StoreW.c2 {w : World} {a : StA} {cls : Cls} {m : Nat} (h : StoreW w a cls m) : w.cell? ⟨a.s, 2, none⟩ = some (.slice (some ⟨a.y, 0, none⟩) cls.length cls.length) := by rw [h.st.cell]; rfl
theorem bytes_at {cls : Cls} {c : Nat} {cl : List PackM} (h : cls[c]? = some cl) : (ints (cls.map bytesM))[c]? = some (.int .i64 (bytesM cl)) := by
  unfold ints
  rw [List.map_map, List.getElem?_map, h]
  rfl
theorem pack_lenAt {p : PackM} (h : p.flow.Fit) (hp : p.pref.addr.length = 7) : p.cells[45]? = some (.int .i64 p.len) := by
  unfold PackM.cells
  rw [show (45 : Nat) = 44 + 1 from rfl, List.getElem?_cons_succ, List.getElem?_append_right (by rw [FlowM.cells_len h]; omega), FlowM.cells_len h, List.getElem?_append_right (by simp [PrefM.cells, hp])]
  simp [PrefM.cells, hp]
theorem StInv.plc {cls : Cls} {m : Nat} {paths : List (List Nat)} {fl : List Nat} {ls : List LineM} {ks : List LinkM} {ps : List PlcM} {first free : Int} (h : StInv cls m paths fl ls ks ps first free) {c k : Nat} {cl : List PackM} {pk : PackM} (hcl : cls[c]? = some cl) (hk : cl[k]? = some pk) :
    ∃ xs x p n, paths[c]? = some xs ∧ ls[c]? = some x ∧ PathM c x ks xs ∧ xs[k]? = some p ∧ ps[p]? = some (PlcM.mk pk true n) := by
  have hc : c < cls.length := (List.getElem?_eq_some_iff.1 hcl).1
  have hk1 : k < cl.length := (List.getElem?_eq_some_iff.1 hk).1
  have hxs := List.getElem?_eq_getElem (l := paths) (i := c) (by rw [h.pl]; exact hc)
  have hx := List.getElem?_eq_getElem (l := ls) (i := c) (by rw [h.ll]; exact hc)
  have hlen := h.len c _ cl hxs hcl
  have hp := List.getElem?_eq_getElem (l := paths[c]'(by rw [h.pl]; exact hc)) (i := k) (by omega)
  obtain ⟨n, hn⟩ := h.hold c _ cl hxs hcl k _ pk hp hk
  exact ⟨_, _, _, n, hxs, hx, (h.path c _ _ hx hxs).1, hp, hn⟩
theorem store_has (w : World) (a : StA) (cls : Cls) (m : Nat) (h : StoreW w a cls m) (c : Int) :
    Ret Tryz.prog 155 #[.pointer (some ⟨a.s, 0, none⟩), .int .i64 c] w fun v w' => v = .bool (decide (0 ≤ c ∧ c < cls.length)) ∧ w' = w := by
  refine ret_of Tryz.func155 rfl (by kernel_rfl) (Nat.le_of_ble_eq_true (by kernel_rfl)) ?_
  by_cases h0 : 0 ≤ c
  · by_cases h1 : c < (cls.length : Int)
    · rw [decide_eq_true (show 0 ≤ c ∧ c < (cls.length : Int) from ⟨h0, h1⟩)]
      simp -implicitDefEqProofs (maxSteps := 1000000) only [↓zvN, zvU, ↓zvE, zvM, init, one, Value.cells, simprocAttr, tyF, h0, h1, h.c2]
    · rw [decide_eq_false (fun h => h1 h.2)]
      simp -implicitDefEqProofs (maxSteps := 1000000) only [↓zvN, zvU, ↓zvE, zvM, init, one, Value.cells, simprocAttr, tyF, h0, h1, h.c2]
  · rw [decide_eq_false (fun h => h0 h.1)]
    simp -implicitDefEqProofs (maxSteps := 1000000) only [↓zvN, zvU, ↓zvE, zvM, init, one, Value.cells, simprocAttr, tyF, h0]
theorem store_free (w : World) (a : StA) (cls : Cls) (m : Nat) (h : StoreW w a cls m) :
    Ret Tryz.prog 65 #[.pointer (some ⟨a.s, 0, none⟩)] w fun v w' => v = .int .i64 ((m : Int) - (cntM cls : Int)) ∧ w' = w := by
  refine ret_of Tryz.func65 rfl (by kernel_rfl) (Nat.le_of_ble_eq_true (by kernel_rfl)) ?_
  obtain ⟨paths, fl, ls, ks, ps, first, free, h1, h2, h3⟩ := h.ex
  simp -implicitDefEqProofs (maxSteps := 1000000) only [↓zvN, zvU, ↓zvE, zvM, init, one, Value.cells, simprocAttr, tyF, h.c0]
  refine call_ok Tryz.call154 (slab_free w a.sp a.sb ps first free h2) ?_
  rintro _ _ ⟨rfl, rfl⟩
  have e : free = (m : Int) - (cntM cls : Int) := by have := h1.free; have := h1.tot; omega
  rw [e]
  simp -implicitDefEqProofs (maxSteps := 1000000) only [↓zvN, zvU, ↓zvE, zvM, init, one, Value.cells, simprocAttr, tyF]
theorem store_len (w : World) (a : StA) (cls : Cls) (m : Nat) (h : StoreW w a cls m) {c : Nat} {cl : List PackM} (hc : cls[c]? = some cl) :
    Ret Tryz.prog 66 #[.pointer (some ⟨a.s, 0, none⟩), .int .i64 c] w fun v w' => v = .int .i64 cl.length ∧ w' = w := by
  refine ret_of Tryz.func66 rfl (by kernel_rfl) (Nat.le_of_ble_eq_true (by kernel_rfl)) ?_
  obtain ⟨paths, fl, ls, ks, ps, first, free, h1, h2, h3⟩ := h.ex
  have hcl : c < cls.length := (List.getElem?_eq_some_iff.1 hc).1
  have hx := List.getElem?_eq_getElem (l := ls) (i := c) (by rw [h1.ll]; exact hcl)
  have hxs := List.getElem?_eq_getElem (l := paths) (i := c) (by rw [h1.pl]; exact hcl)
  simp -implicitDefEqProofs (maxSteps := 1000000) only [↓zvN, zvU, ↓zvE, zvM, init, one, Value.cells, simprocAttr, tyF]
  refine call_ok Tryz.call155 (store_has w a cls m h c) ?_
  rintro _ w1 ⟨rfl, rfl⟩
  rw [decide_eq_true (show 0 ≤ (c : Int) ∧ (c : Int) < (cls.length : Int) from ⟨by omega, by omega⟩)]
  simp -implicitDefEqProofs (maxSteps := 1000000) only [↓zvN, zvU, ↓zvE, zvM, init, one, Value.cells, simprocAttr, tyF, h.c1]
  refine call_ok Tryz.call156 (chain_len w1 a.cp a.cb a.cc ls ks h3 hx) ?_
  rintro _ _ ⟨rfl, rfl⟩
  rw [(h1.path c _ _ hx hxs).1.n, h1.len c _ cl hxs hc]
  simp -implicitDefEqProofs (maxSteps := 1000000) only [↓zvN, zvU, ↓zvE, zvM, init, one, Value.cells, simprocAttr, tyF]
theorem store_bytes (w : World) (a : StA) (cls : Cls) (m : Nat) (h : StoreW w a cls m) {c : Nat} {cl : List PackM} (hc : cls[c]? = some cl) :
    Ret Tryz.prog 142 #[.pointer (some ⟨a.s, 0, none⟩), .int .i64 c] w fun v w' => v = .int .i64 (bytesM cl) ∧ w' = w := by
  refine ret_of Tryz.func142 rfl (by kernel_rfl) (Nat.le_of_ble_eq_true (by kernel_rfl)) ?_
  have hcl : c < cls.length := (List.getElem?_eq_some_iff.1 hc).1
  have g0 : (0 : Int) ≤ (c : Int) := by omega
  have g1 : (c : Int) < (cls.length : Int) := by omega
  have cb : w.cell? ⟨a.y, c, none⟩ = some (.int .i64 (bytesM cl)) := by rw [h.bytes.cell]; exact bytes_at hc
  simp -implicitDefEqProofs (maxSteps := 1000000) only [↓zvN, zvU, ↓zvE, zvM, init, one, Value.cells, simprocAttr, tyF]
  refine call_ok Tryz.call155 (store_has w a cls m h c) ?_
  rintro _ w1 ⟨rfl, rfl⟩
  rw [decide_eq_true (show 0 ≤ (c : Int) ∧ (c : Int) < (cls.length : Int) from ⟨g0, g1⟩)]
  simp -implicitDefEqProofs (maxSteps := 1000000) only [↓zvN, zvU, ↓zvE, zvM, init, one, Value.cells, simprocAttr, tyF, h.c2, g0, g1, Int.toNat_natCast, cb]
theorem store_at (w : World) (a : StA) (cls : Cls) (m : Nat) (h : StoreW w a cls m) {c k : Nat} {cl : List PackM} {pk : PackM} (hc : cls[c]? = some cl) (hk : cl[k]? = some pk) :
    Ret Tryz.prog 67 #[.pointer (some ⟨a.s, 0, none⟩), .int .i64 c, .int .i64 k] w fun v w' => v = .tuple #[.agg pk.cells.toArray, .bool true] ∧ More w w' := by
  refine ret_of Tryz.func67 rfl (by kernel_rfl) (Nat.le_of_ble_eq_true (by kernel_rfl)) ?_
  obtain ⟨paths, fl, ls, ks, ps, first, free, h1, h2, h3⟩ := h.ex
  obtain ⟨xs, x, p, n, hxs, hx, hP, hp, hps⟩ := h1.plc hc hk
  have hcl : c < cls.length := (List.getElem?_eq_some_iff.1 hc).1
  have hok := h1.fit cl (List.mem_of_getElem? hc) pk (List.mem_of_getElem? hk)
  simp -implicitDefEqProofs (maxSteps := 1000000) only [↓zvN, zvU, ↓zvE, zvM, init, one, Value.cells, simprocAttr, tyF, zerPack]
  have hm1 := more_alloc w (.cells packZ.cells.toArray 39)
  have hb1 := Blk.new w 39 packZ.cells.toArray
  obtain ⟨w1, hw1⟩ : ∃ w1, w.alloc (.cells packZ.cells.toArray 39) = w1 := ⟨_, rfl⟩
  rw [hw1] at hm1 hb1 ⊢
  clear hw1
  obtain ⟨z, hz⟩ : ∃ z, w.heap.size = z := ⟨_, rfl⟩
  rw [hz] at hb1 ⊢
  have h01 := h.more hm1
  refine call_ok Tryz.call155 (store_has w1 a cls m h01 c) ?_
  rintro _ w2 ⟨rfl, rfl⟩
  rw [decide_eq_true (show 0 ≤ (c : Int) ∧ (c : Int) < (cls.length : Int) from ⟨by omega, by omega⟩)]
  simp -implicitDefEqProofs (maxSteps := 1000000) only [↓zvN, zvU, ↓zvE, zvM, init, one, Value.cells, simprocAttr, tyF, h01.c1]
  refine call_ok Tryz.call157 (chain_at w2 a.cp a.cb a.cc ls ks (h3.more hm1) hx hP hp) ?_
  rintro _ w3 ⟨rfl, hm3⟩
  have h02 := h01.more hm3
  simp -implicitDefEqProofs (maxSteps := 1000000) only [↓zvN, zvU, ↓zvE, zvM, init, one, Value.cells, simprocAttr, tyF, h02.c0]
  refine call_ok Tryz.call158 (slab_get w3 a.sp a.sb ps first free ((h2.more hm1).more hm3) hps rfl) ?_
  rintro _ w4 ⟨rfl, hm4⟩
  have hb4 := (hb1.more hm3).more hm4
  simp -implicitDefEqProofs (maxSteps := 1000000) only [↓zvN, zvU, ↓zvE, zvM, init, one, Value.cells, simprocAttr, tyF]
  refine st_all hb4 (by simpa using pack_len hok.1 hok.2.1) rfl (by simpa using PackM.one pk) fun w5 i5 k5 => ?_
  rw [s2_undef]
  rw [List.toList_toArray] at k5
  have l5 := k5.all_eq 46 (pack_len hok.1 hok.2.1)
  simp -implicitDefEqProofs (maxSteps := 1000000) only [↓zvN, zvU, ↓zvE, zvM, init, one, Value.cells, simprocAttr, tyF, l5]
  exact i5.below ((hm1.trans hm3).trans hm4) (by omega)
theorem bytes_set {cls : Cls} {c : Nat} {cl' : List PackM} {n : Int} (hn : n = bytesM cl') : (ints (cls.map bytesM)).set c (.int .i64 n) = ints ((cls.set c cl').map bytesM) := by
  unfold ints
  rw [List.map_set, List.map_set, hn]
theorem bytes_app (cl : List PackM) (pk : PackM) : bytesM (cl ++ [pk]) = bytesM cl + pk.len := by simp [bytesM, List.sum_append]
theorem bytes_bound {m : Nat} : ∀ {cl : List PackM}, (∀ pk ∈ cl, pk.Ok) → cl.length ≤ m → 0 ≤ bytesM cl ∧ bytesM cl ≤ 9216 * m := by
  intro cl h hl
  induction cl generalizing m with
  | nil => simp [bytesM]; omega
  | cons x cl ih =>
    have hx := h x (by simp)
    have hl' : cl.length + 1 ≤ m := hl
    have := ih (m := m - 1) (fun pk hp => h pk (by simp [hp])) (by omega)
    have e : bytesM (x :: cl) = x.len + bytesM cl := by simp [bytesM]
    rw [e]
    obtain ⟨_, _, h3, h4⟩ := hx
    omega
theorem len_cnt {cls : Cls} {c : Nat} {cl : List PackM} (h : cls[c]? = some cl) : cl.length ≤ cntM cls := by
  have := cnt_set h []
  simp at this
  omega
theorem store_push_full (w : World) (a : StA) (cls : Cls) (m : Nat) (h : StoreW w a cls m) {c : Nat} (hc : c < cls.length) (x : PackM) (hx : x.Ok) (hfull : cntM cls = m) :
    Ret Tryz.prog 83 #[.pointer (some ⟨a.s, 0, none⟩), .int .i64 c, .agg x.cells.toArray] w fun v w' => v = .bool false ∧ StoreW w' a cls m ∧ More w w' := by
  refine ret_of Tryz.func83 rfl (by kernel_rfl) (Nat.le_of_ble_eq_true (by kernel_rfl)) ?_
  obtain ⟨paths, fl, ls, ks, ps, first, free, h1, h2, h3⟩ := h.ex
  have hfl : fl = [] := List.eq_nil_of_length_eq_zero (by have := h1.tot; omega)
  have hfirst : first < 0 := by rw [h1.first, hfl]; decide
  simp -implicitDefEqProofs (maxSteps := 1000000) only [↓zvN, zvU, ↓zvE, zvM, init, one, Value.cells, simprocAttr, tyF]
  have hm1 := more_alloc w (.cells x.cells.toArray 39)
  have hb1 := Blk.new w 39 x.cells.toArray
  obtain ⟨w1, hw1⟩ : ∃ w1, w.alloc (.cells x.cells.toArray 39) = w1 := ⟨_, rfl⟩
  rw [hw1] at hm1 hb1 ⊢
  clear hw1
  rw [List.toList_toArray] at hb1
  obtain ⟨z, hz⟩ : ∃ z, w.heap.size = z := ⟨_, rfl⟩
  rw [hz] at hb1 ⊢
  have h01 := h.more hm1
  refine call_ok Tryz.call155 (store_has w1 a cls m h01 c) ?_
  rintro _ w2 ⟨rfl, rfl⟩
  rw [decide_eq_true (show 0 ≤ (c : Int) ∧ (c : Int) < (cls.length : Int) from ⟨by omega, by omega⟩)]
  have cl45 : w2.cell? ⟨z, 45, none⟩ = some (.int .i64 x.len) := by rw [hb1.cell]; exact pack_lenAt hx.1 hx.2.1
  have l1 : ¬ x.len < 1 := by have := hx.2.2.1; omega
  have l2 : ¬ (9216 : Int) < x.len := by have := hx.2.2.2; omega
  have lz := hb1.lt
  have ls' := h01.st.lt
  have lx := hb1.all_eq 46 (pack_len hx.1 hx.2.1)
  simp -implicitDefEqProofs (maxSteps := 1000000) only [↓zvN, zvU, ↓zvE, zvM, init, one, Value.cells, simprocAttr, tyF, cl45, l1, l2]
  refine draw_seen 10 [[], [0], [0, 1], [0, 1, 2], [], [0, 1, 2, 3, 4], [0, 1, 2, 3, 4, 5], [0, 1, 2, 3, 4, 5, 6], [0, 1, 2, 3, 4, 5, 6], [0, 1, 2, 3, 4, 5, 6, 7], [0, 1, 2, 3, 4, 5, 6, 7, 8, 9]] (RV.look [(5, fun v _ => v = .tuple #[.int .i64 0, .bool false])]) mixed (by kernel_rfl) (by kernel_rfl) (look_keeps _ (by
    intro z hz
    simp only [List.mem_cons, List.not_mem_nil, or_false] at hz
    rcases hz with rfl
    exact fun v a b hab h => h)) ?_
  simp -implicitDefEqProofs (maxSteps := 1000000) only [↓zvN, zvU, ↓zqD, ↓zvE, zvM, init, one, Value.cells, simprocAttr, tyF, h01.c0, lx, lz, ls']
  refine ⟨fun w3 hm3 => ?_, ?_⟩
  · refine call_ok Tryz.call167 (slab_none w3 a.sp a.sb ps first free ((h2.more hm1).more hm3) hfirst x) ?_
    rintro _ w4 ⟨rfl, hm4⟩
    simp -implicitDefEqProofs (maxSteps := 1000000) only [↓zvN, zvU, ↓zqD, ↓zvE, zvM, init, one, Value.cells, simprocAttr, tyF]
    exact hm4
  rintro _ ⟨w3, hm3, rfl⟩
  simp -implicitDefEqProofs (maxSteps := 1000000) only [↓zvN, zvU, ↓zqD, ↓zvE, zvM, init, one, Value.cells, simprocAttr, tyF]
  intro w4 hm4
  try simp -implicitDefEqProofs (maxSteps := 1000000) only [↓zvN, zvU, ↓zvE, zvM, init, one, Value.cells, simprocAttr, tyF, p_nil]
  exact ⟨h01.more hm4, hm1.trans hm4⟩
theorem store_push (w : World) (a : StA) (cls : Cls) (m : Nat) (h : StoreW w a cls m) {c : Nat} {cl : List PackM} (hc : cls[c]? = some cl) (x : PackM) (hx : x.Ok) (hroom : cntM cls < m) :
    Ret Tryz.prog 83 #[.pointer (some ⟨a.s, 0, none⟩), .int .i64 c, .agg x.cells.toArray] w fun v w' => v = .bool true ∧ StoreW w' a (cls.set c (cl ++ [x])) m ∧ Mod a.own w w' := by
  refine ret_of Tryz.func83 rfl (by kernel_rfl) (Nat.le_of_ble_eq_true (by kernel_rfl)) ?_
  obtain ⟨paths, fl0, ls, ks, ps, first, free, h1, h2, h3⟩ := h.ex
  obtain ⟨p, fl, rfl⟩ : ∃ p fl, fl0 = p :: fl := by
    cases fl0 with
    | nil => have := h1.tot; simp at this; omega
    | cons p fl => exact ⟨p, fl, rfl⟩
  have hcl : c < cls.length := (List.getElem?_eq_some_iff.1 hc).1
  have hxl := List.getElem?_eq_getElem (l := ls) (i := c) (by rw [h1.ll]; exact hcl)
  have hxs := List.getElem?_eq_getElem (l := paths) (i := c) (by rw [h1.pl]; exact hcl)
  have hI := h1.push hc hxs hxl x hx
  have hp0 := h1.fr 0 p rfl
  obtain ⟨⟨y, hy⟩, hkp⟩ := hp0
  have hfirst : first = (p : Int) := by rw [h1.first]; rfl
  have hfr : 0 ≤ free ∧ free ≤ 4096 := by
    have e1 := h1.free
    have e2 := h1.tot
    have e3 := h1.ml
    omega
  have sp := h.sepS
  simp -implicitDefEqProofs (maxSteps := 1000000) only [↓zvN, zvU, ↓zvE, zvM, init, one, Value.cells, simprocAttr, tyF]
  have hm1 := more_alloc w (.cells x.cells.toArray 39)
  have hb1 := Blk.new w 39 x.cells.toArray
  obtain ⟨w1, hw1⟩ : ∃ w1, w.alloc (.cells x.cells.toArray 39) = w1 := ⟨_, rfl⟩
  rw [hw1] at hm1 hb1 ⊢
  clear hw1
  rw [List.toList_toArray] at hb1
  obtain ⟨z, hz⟩ : ∃ z, w.heap.size = z := ⟨_, rfl⟩
  have hown : ∀ k, a.own k → k < z := fun k hk => by rw [← hz]; exact h.lt k hk
  have hs_lt : a.s < z ∧ a.cp < z := by rw [← hz]; exact ⟨h.st.lt, h3.blk.lt⟩
  rw [hz] at hb1 ⊢
  have h01 := h.more hm1
  refine call_ok Tryz.call155 (store_has w1 a cls m h01 c) ?_
  rintro _ w2 ⟨rfl, rfl⟩
  have g0 : (0 : Int) ≤ (c : Int) := by omega
  have g1 : (c : Int) < (cls.length : Int) := by omega
  rw [decide_eq_true (show 0 ≤ (c : Int) ∧ (c : Int) < (cls.length : Int) from ⟨g0, g1⟩)]
  have c45 : ∀ {w' : World}, Blk w' z 39 x.cells → w'.cell? ⟨z, 45, none⟩ = some (.int .i64 x.len) := fun hb => by rw [hb.cell]; exact pack_lenAt hx.1 hx.2.1
  have l1 : ¬ x.len < 1 := by have := hx.2.2.1; omega
  have l2 : ¬ (9216 : Int) < x.len := by have := hx.2.2.2; omega
  have lz := hb1.lt
  have ls' := h01.st.lt
  simp -implicitDefEqProofs (maxSteps := 1000000) only [↓zvN, zvU, ↓zvE, zvM, init, one, Value.cells, simprocAttr, tyF, c45 hb1, l1, l2]
  have hFl : ∀ q, q = a.s ∨ q = z → q < w2.heap.size := by rintro q (rfl | rfl) <;> assumption
  have hFo : ∀ q, q = a.s ∨ q = z → ¬ duo a.sp a.sb q := by
    rintro q (rfl | rfl) h
    · exact sp.s_slab h
    · have := hown _ (.inr (.inl h)); omega
  refine draw_line 0 (KeepF 0 fun q => q = a.s ∨ q = z) [0, 0, 0, 2, 2, 1, 0, 0, 0, 0, 0] [[], [0], [0, 1], [0, 1, 2], [], [0, 1, 2, 3, 4], [0, 1, 2, 3, 4, 5], [0, 1, 2, 3, 4, 5, 6], [0, 1, 2, 3, 4, 5, 6], [0, 1, 2, 3, 4, 5, 6, 7], [0, 1, 2, 3, 4, 5, 6, 7, 8, 9]] mixed (by kernel_rfl) (by kernel_rfl) (KeepF.refl _ _ _) (fun w' h => KeepF.of_more h (by omega) hFl) (fun w' h => h.1) ?_
  intro w3 hm3
  have hk3 : KeepF 0 (fun q => q = a.s ∨ q = z) w2 w3 := KeepF.of_more hm3 (by omega) hFl
  simp -implicitDefEqProofs (maxSteps := 1000000) only [↓zvN, zvU, ↓zqD, ↓sk_nil, ↓sk_cons, ↓sk_guard, ↓sk_zero, ↓sk_one, ↓sk_two, ↓zvE, zvM, init, one, Value.cells, simprocAttr, tyF]
  refine read_ok (.pointer (some ⟨a.sp, 0, none⟩)) rfl (fun wr hkr => ?_) ?_
  · have hs := hkr.blk (.inl rfl) h01.st
    have c0 : wr.cell? ⟨a.s, 0, none⟩ = some (.pointer (some ⟨a.sp, 0, none⟩)) := by rw [hs.cell]; rfl
    simp -implicitDefEqProofs (maxSteps := 1000000) only [↓zvN, zvU, ↓zvE, zvM, init, one, Value.cells, simprocAttr, tyF, c0]
  simp -implicitDefEqProofs (maxSteps := 1000000) only [↓zvN, zvU, ↓zqD, ↓sk_nil, ↓sk_cons, ↓sk_guard, ↓sk_zero, ↓sk_one, ↓sk_two, ↓zvE, zvM, init, one, Value.cells, simprocAttr, tyF]
  refine read_ok (.agg x.cells.toArray) rfl (fun wr hkr => ?_) ?_
  · have hb := hkr.blk (.inr rfl) hb1
    simp -implicitDefEqProofs (maxSteps := 1000000) only [↓zvN, zvU, ↓zvE, zvM, init, one, Value.cells, simprocAttr, tyF, hb.all_eq 46 (pack_len hx.1 hx.2.1)]
  simp -implicitDefEqProofs (maxSteps := 1000000) only [↓zvN, zvU, ↓zqD, ↓sk_nil, ↓sk_cons, ↓sk_guard, ↓sk_zero, ↓sk_one, ↓sk_two, ↓zvE, zvM, init, one, Value.cells, simprocAttr, tyF]
  have h23 := (h2.more hm1).more hm3
  rw [hfirst] at h23
  refine call_ok Tryz.call167 (slab_take w3 a.sp a.sb ps p free h23 hfr hy x hx.1 hx.2.1) ?_
  rintro _ w4 ⟨rfl, hS4, hm4⟩
  have hk4 := hk3.next hm4 hFo (fun q hq => by omega) (fun q hq => by have := hFl q hq; have := hm3.size; omega) (by omega)
  simp -implicitDefEqProofs (maxSteps := 1000000) only [↓zvN, zvU, ↓zqD, ↓sk_nil, ↓sk_cons, ↓sk_guard, ↓sk_zero, ↓sk_one, ↓sk_two, ↓zvE, zvM, init, one, Value.cells, simprocAttr, tyF]
  refine ⟨hk4, ?_⟩
  try simp -implicitDefEqProofs (maxSteps := 1000000) only [↓zvN, zvU, ↓zqD, ↓sk_nil, ↓sk_cons, ↓sk_guard, ↓sk_zero, ↓sk_one, ↓sk_two, ↓zvE, zvM, init, one, Value.cells, simprocAttr, tyF]
  try simp -implicitDefEqProofs (maxSteps := 1000000) only [↓zvN, zvU, ↓zvE, zvM, init, one, Value.cells, simprocAttr, tyF]
  have hs4 := hk4.blk (.inl rfl) h01.st
  have hb4 := hk4.blk (.inr rfl) hb1
  have hy4 := hm4.blk (h01.bytes.more hm3) sp.y_slab
  have hch4 := (h3.more (hm1.trans hm3)).mod hm4 sp.cp_slab sp.cb_slab sp.cc_slab
  have c42 : w4.cell? ⟨a.s, 2, none⟩ = some (.slice (some ⟨a.y, 0, none⟩) cls.length cls.length) := by rw [hs4.cell]; rfl
  have c41 : w4.cell? ⟨a.s, 1, none⟩ = some (.pointer (some ⟨a.cp, 0, none⟩)) := by rw [hs4.cell]; rfl
  have cy4 : w4.cell? ⟨a.y, c, none⟩ = some (.int .i64 (bytesM cl)) := by rw [hy4.cell]; exact bytes_at hc
  have hbb := bytes_bound (fun pk hp => h1.fit cl (List.mem_of_getElem? hc) pk hp) (m := 4096) (by have := len_cnt hc; have := h1.ml; have := h1.tot; omega)
  have eb : IntKind.i64.wrap (bytesM cl + x.len) = bytesM cl + x.len := by have := hx.2.2; exact w64 (by omega) (by omega)
  have lz4 := hb4.lt
  have ls4 := hs4.lt
  have ly4 := hy4.lt
  refine draw_seen 9 [[], [0], [0, 1], [0, 1, 2], [], [0, 1, 2, 3, 4], [0, 1, 2, 3, 4, 5], [], [7], [0, 1, 2, 3, 4, 5, 6, 7, 8], [0, 1, 2, 3, 4, 5, 6, 7, 8, 9], [0, 1, 2, 3, 4, 5, 6, 7, 8, 9, 10]] (RV.look []) mixed (by kernel_rfl) (by kernel_rfl) (look_keeps _ (by simp)) ?_
  simp -implicitDefEqProofs (maxSteps := 1000000) only [↓zvN, zvU, ↓zqD, ↓zvE, zvM, init, one, Value.cells, simprocAttr, tyF, c42, cy4, c45 hb4, eb, lz4, ls4, ly4, g0, g1, Int.toNat_natCast]
  intro w5 hm5
  try simp -implicitDefEqProofs (maxSteps := 1000000) only [↓zvN, zvU, ↓zvE, zvM, init, one, Value.cells, simprocAttr, tyF, p_nil, g0, g1, Int.toNat_natCast]
  refine st_cell (i := c) (v := .int .i64 (bytesM cl + x.len)) (hy4.more hm5) (by simp [ints]; exact hcl) rfl fun w6 i6 k6 => ?_
  rw [s2_undef]
  rw [bytes_set (cl' := cl ++ [x]) (bytes_app cl x).symm] at k6
  have hs6 := i6.blk (hs4.more hm5) sp.s_y
  have c61 : w6.cell? ⟨a.s, 1, none⟩ = some (.pointer (some ⟨a.cp, 0, none⟩)) := by rw [hs6.cell]; rfl
  have hch6 := (hch4.more hm5).mod (Mod.of_wr (S := fun k => k = a.y) i6 rfl) sp.cp_y sp.cb_y sp.cc_y
  have hS6 := (hS4.more hm5).mod (Mod.of_wr (S := fun k => k = a.y) i6 rfl) sp.sp_y sp.sb_y
  obtain ⟨hPx, hlastx⟩ := h1.path c _ _ hxl hxs
  simp -implicitDefEqProofs (maxSteps := 1000000) only [↓zvN, zvU, ↓zvE, zvM, init, one, Value.cells, simprocAttr, tyF, c61]
  refine call_ok Tryz.call168 (chain_push w6 a.cp a.cb a.cc ls ks hch6 hxl hkp rfl (by have := hPx.n; have := hPx.le; omega) (fun hn => ?_)) ?_
  · have hl0 : 0 < (paths[c]'(by rw [h1.pl]; exact hcl)).length := by have := hPx.n; omega
    refine ⟨_, _, hlastx.trans (nthI_some (List.getElem?_eq_getElem (by omega))), ?_, hPx.at_ _ _ (List.getElem?_eq_getElem (by omega)), rfl⟩
    intro e
    have := hPx.at_ _ _ (List.getElem?_eq_getElem (l := paths[c]'(by rw [h1.pl]; exact hcl)) (i := (paths[c]'(by rw [h1.pl]; exact hcl)).length - 1) (by omega))
    rw [e, hkp] at this
    injection this with this
    injection this with this _
    omega
  rintro _ w7 ⟨rfl, hm7, hC7⟩
  simp -implicitDefEqProofs (maxSteps := 1000000) only [↓zvN, zvU, ↓zvE, zvM, init, one, Value.cells, simprocAttr, tyF]
  have hS7 := hS6.mod hm7 sp.sp_ch sp.sb_ch
  have o1 : ∀ k, duo a.sp a.sb k → a.own k := fun k h => .inr (.inl h)
  have o2 : ∀ k, duo a.cb a.cc k → a.own k := fun k h => .inr (.inr h)
  have mm : Mod a.own w w7 := (((((Mod.of_more (hm1.trans hm3)).trans (hm4.mono fun k _ h => o1 k h)).trans (Mod.of_more hm5)).trans (Mod.of_wr i6 (.inl rfl))).trans (hm7.mono fun k _ h => o2 k h))
  refine ⟨⟨by rw [List.length_set]; exact hm7.blk hs6 sp.s_ch, hm7.blk k6 sp.y_ch, _, fl, _, _, _, _, _, hI, hS7, hC7⟩, mm⟩
theorem bytes_era : ∀ {cl : List PackM} {k : Nat} {pk : PackM}, cl[k]? = some pk → bytesM (cl.eraseIdx k) = bytesM cl - pk.len
  | [], k, pk, h => by cases h
  | x :: cl, 0, pk, h => by
    simp at h
    subst h
    simp [bytesM]
    omega
  | x :: cl, k + 1, pk, h => by
    have := bytes_era (cl := cl) (k := k) (pk := pk) (by simpa using h)
    simp only [bytesM, List.eraseIdx_cons_succ, List.map_cons, List.sum_cons] at this ⊢
    omega
theorem store_cut (w : World) (a : StA) (cls : Cls) (m : Nat) (h : StoreW w a cls m) {c k : Nat} {cl : List PackM} {pk : PackM} (hc : cls[c]? = some cl) (hk : cl[k]? = some pk) :
    Ret Tryz.prog 148 #[.pointer (some ⟨a.s, 0, none⟩), .int .i64 c, .int .i64 k] w fun v w' => v = .tuple #[.agg pk.cells.toArray, .bool true] ∧ StoreW w' a (cls.set c (cl.eraseIdx k)) m ∧ Mod a.own w w' := by
  refine ret_of Tryz.func148 rfl (by kernel_rfl) (Nat.le_of_ble_eq_true (by kernel_rfl)) ?_
  obtain ⟨paths, fl, ls, ks, ps, first, free, h1, h2, h3⟩ := h.ex
  have hcl : c < cls.length := (List.getElem?_eq_some_iff.1 hc).1
  have hok := h1.fit cl (List.mem_of_getElem? hc) pk (List.mem_of_getElem? hk)
  obtain ⟨xs, x, p, n, hxs, hxl, hP, hp, hps⟩ := h1.plc hc hk
  have hI := h1.cut hc hxs hxl hp
  have hfr : 0 ≤ free ∧ free ≤ 4096 := by
    have e1 := h1.free
    have e2 := h1.tot
    have e3 := h1.ml
    omega
  have sp := h.sepS
  simp -implicitDefEqProofs (maxSteps := 1000000) only [↓zvN, zvU, ↓zvE, zvM, init, one, Value.cells, simprocAttr, tyF, zerPack]
  have hm1 := more_alloc w (.cells packZ.cells.toArray 39)
  have hb1 := Blk.new w 39 packZ.cells.toArray
  obtain ⟨w1, hw1⟩ : ∃ w1, w.alloc (.cells packZ.cells.toArray 39) = w1 := ⟨_, rfl⟩
  rw [hw1] at hm1 hb1 ⊢
  clear hw1
  obtain ⟨z, hz⟩ : ∃ z, w.heap.size = z := ⟨_, rfl⟩
  have hown : ∀ k, a.own k → k < z := fun k hk => by rw [← hz]; exact h.lt k hk
  have hs_lt : a.s < z ∧ a.cp < z := by rw [← hz]; exact ⟨h.st.lt, h3.blk.lt⟩
  rw [hz] at hb1 ⊢
  have hzo : ¬ a.own z := fun h => by have := hown z h; omega
  have h01 := h.more hm1
  refine call_ok Tryz.call155 (store_has w1 a cls m h01 c) ?_
  rintro _ w2 ⟨rfl, rfl⟩
  have g0 : (0 : Int) ≤ (c : Int) := by omega
  have g1 : (c : Int) < (cls.length : Int) := by omega
  rw [decide_eq_true (show 0 ≤ (c : Int) ∧ (c : Int) < (cls.length : Int) from ⟨g0, g1⟩)]
  simp -implicitDefEqProofs (maxSteps := 1000000) only [↓zvN, zvU, ↓zvE, zvM, init, one, Value.cells, simprocAttr, tyF, h01.c1]
  refine call_ok Tryz.call211 (chain_cut w2 a.cp a.cb a.cc ls ks (h3.more hm1) hxl hP hp) ?_
  rintro _ w3 ⟨rfl, hm3, hC3⟩
  have hs3 := hm3.blk h01.st sp.s_ch
  have hy3 := hm3.blk h01.bytes sp.y_ch
  have hS3 := (h2.more hm1).mod hm3 sp.sp_ch sp.sb_ch
  have hb3 := hm3.blk hb1 (fun h => hzo (.inr (.inr h)))
  have c30 : w3.cell? ⟨a.s, 0, none⟩ = some (.pointer (some ⟨a.sp, 0, none⟩)) := by rw [hs3.cell]; rfl
  simp -implicitDefEqProofs (maxSteps := 1000000) only [↓zvN, zvU, ↓zvE, zvM, init, one, Value.cells, simprocAttr, tyF, c30]
  refine call_ok Tryz.call212 (slab_give w3 a.sp a.sb ps first free hS3 hfr hps rfl) ?_
  rintro _ w4 ⟨rfl, hS4, hm4⟩
  have hs4 := hm4.blk hs3 sp.s_slab
  have hy4 := hm4.blk hy3 sp.y_slab
  have hC4 := hC3.mod hm4 sp.cp_slab sp.cb_slab sp.cc_slab
  have hb4 := hm4.blk hb3 (fun h => hzo (.inr (.inl h)))
  simp -implicitDefEqProofs (maxSteps := 1000000) only [↓zvN, zvU, ↓zvE, zvM, init, one, Value.cells, simprocAttr, tyF, zerPack]
  refine pack_var2 hok.1 hok.2.1 fun w5 hm5 hq5 _ => ?_
  rw [s2_undef]
  obtain ⟨q, hq⟩ : ∃ q, w4.heap.size = q := ⟨_, rfl⟩
  have hzq : z < q := by rw [← hq]; exact hb4.lt
  rw [hq] at hq5 ⊢
  have hs5 := hs4.more hm5
  have hy5 := hy4.more hm5
  have hqo : ¬ a.own q := fun h => by have := hown q h; omega
  have c52 : w5.cell? ⟨a.s, 2, none⟩ = some (.slice (some ⟨a.y, 0, none⟩) cls.length cls.length) := by rw [hs5.cell]; rfl
  have cy5 : w5.cell? ⟨a.y, c, none⟩ = some (.int .i64 (bytesM cl)) := by rw [hy5.cell]; exact bytes_at hc
  have c45 : w5.cell? ⟨q, 45, none⟩ = some (.int .i64 pk.len) := by rw [hq5.cell]; exact pack_lenAt hok.1 hok.2.1
  have hbb := bytes_bound (fun pk hp => h1.fit cl (List.mem_of_getElem? hc) pk hp) (m := 4096) (by have := len_cnt hc; have := h1.ml; have := h1.tot; omega)
  have eb : IntKind.i64.wrap (bytesM cl - pk.len) = bytesM cl - pk.len := by have := hok.2.2; exact w64 (by omega) (by omega)
  have lq5 := hq5.lt
  have ls5 := hs5.lt
  have ly5 := hy5.lt
  simp -implicitDefEqProofs (maxSteps := 1000000) only [↓zvN, zvU, ↓zvE, zvM, init, one, Value.cells, simprocAttr, tyF]
  refine draw_seen 9 [[], [0], [0, 1], [0, 1, 2], [], [0, 1, 2, 3, 4], [0, 1, 2, 3, 4, 5], [], [7], [0, 1, 2, 3, 4, 5, 6, 7, 8], [0, 1, 2, 3, 4, 5, 6, 7, 8, 9], [0, 1, 2, 3, 4, 5, 6, 7, 8, 9, 10]] (RV.look []) mixed (by kernel_rfl) (by kernel_rfl) (look_keeps _ (by simp)) ?_
  simp -implicitDefEqProofs (maxSteps := 1000000) only [↓zvN, zvU, ↓zqD, ↓zvE, zvM, init, one, Value.cells, simprocAttr, tyF, c52, cy5, c45, eb, lq5, ls5, ly5, g0, g1, Int.toNat_natCast]
  intro w6 hm6
  try simp -implicitDefEqProofs (maxSteps := 1000000) only [↓zvN, zvU, ↓zvE, zvM, init, one, Value.cells, simprocAttr, tyF, p_nil, g0, g1, Int.toNat_natCast]
  refine st_cell (i := c) (v := .int .i64 (bytesM cl - pk.len)) (hy5.more hm6) (by simp [ints]; exact hcl) rfl fun w7 i7 k7 => ?_
  rw [s2_undef]
  rw [bytes_set (cl' := cl.eraseIdx k) (bytes_era hk).symm] at k7
  have hs7 := i7.blk (hs5.more hm6) sp.s_y
  have hq7 := i7.blk (hq5.more hm6) (fun e => hqo (.inl e))
  have hb7 := i7.blk ((hb4.more hm5).more hm6) (fun e => hzo (.inl e))
  have l7 := hq7.all_eq 46 (pack_len hok.1 hok.2.1)
  have hC7 := ((hC4.more hm5).more hm6).mod (Mod.of_wr (S := fun k => k = a.y) i7 rfl) sp.cp_y sp.cb_y sp.cc_y
  have hS7 := ((hS4.more hm5).more hm6).mod (Mod.of_wr (S := fun k => k = a.y) i7 rfl) sp.sp_y sp.sb_y
  simp -implicitDefEqProofs (maxSteps := 1000000) only [↓zvN, zvU, ↓zvE, zvM, init, one, Value.cells, simprocAttr, tyF, l7]
  refine st_all hb7 (by simpa using pack_len hok.1 hok.2.1) rfl (by simpa using PackM.one pk) fun w8 i8 k8 => ?_
  rw [s2_undef]
  rw [List.toList_toArray] at k8
  have l8 := k8.all_eq 46 (pack_len hok.1 hok.2.1)
  simp -implicitDefEqProofs (maxSteps := 1000000) only [↓zvN, zvU, ↓zvE, zvM, init, one, Value.cells, simprocAttr, tyF, l8]
  have o1 : ∀ k, duo a.sp a.sb k → a.own k := fun k h => .inr (.inl h)
  have o2 : ∀ k, duo a.cb a.cc k → a.own k := fun k h => .inr (.inr h)
  have mm : Mod a.own w w7 := (((((Mod.of_more hm1).trans (hm3.mono fun k _ h => o2 k h)).trans (hm4.mono fun k _ h => o1 k h)).trans (Mod.of_more (hm5.trans hm6))).trans (Mod.of_wr i7 (.inl rfl)))
  have oz : ∀ k, a.own k → k ≠ z := fun k h e => hzo (by rw [← e]; exact h)
  have m78 : Mod (fun k => k = z) w7 w8 := Mod.of_wr i8 rfl
  have hcpz : a.cp ≠ z := by omega
  refine ⟨⟨by rw [List.length_set]; exact i8.blk hs7 (by omega), i8.blk k7 (oz _ (.inl rfl)), _, _, _, _, _, _, _, hI, hS7.mod m78 (oz _ (.inr (.inl (.inl rfl)))) (oz _ (.inr (.inl (.inr rfl)))), hC7.mod m78 hcpz (oz _ (.inr (.inr (.inl rfl)))) (oz _ (.inr (.inr (.inr rfl))))⟩, mm.next m78 (fun k hk e => by omega)⟩

def pkey (p : PrefM) : List UInt8 := (if p.v6 = true then 1 else 0) :: p.addr
theorem pkey_len {p : PrefM} (h : p.addr.length = 7) : (pkey p).length = 8 := by simp [pkey, h]
theorem pkey_inj {p q : PrefM} (h : pkey p = pkey q) : p = q := by
  unfold pkey at h
  simp only [List.cons.injEq] at h
  cases p; cases q
  simp only [PrefM.mk.injEq] at *
  refine ⟨?_, h.2⟩
  have h1 := h.1
  rename_i a _ b _
  cases a <;> cases b <;> simp at h1 <;> rfl
theorem table_bytesOf (w : World) (p : PrefM) (hp : p.addr.length = 7) : Ret Tryz.prog 210 #[.agg p.cells.toArray] w fun v w' => ∃ g c, v = .slice (some ⟨g, 0, none⟩) 8 c ∧ w.heap.size ≤ g ∧ Bs w' (some ⟨g, 0, none⟩) (pkey p) ∧ 8 ≤ c ∧ MoreD w w' := by
  refine ret_of Tryz.func210 rfl (by kernel_rfl) (Nat.le_of_ble_eq_true (by kernel_rfl)) ?_
  have hm1 := MoreD.alloc w (.cells p.cells.toArray 37)
  have hb1 := Blk.new w 37 p.cells.toArray
  have s1 := size_alloc w (.cells p.cells.toArray 37)
  simp -implicitDefEqProofs (maxSteps := 1000000) only [↓zvD, zvU, ↓zvE, zvM, init, one, Value.cells, simprocAttr, tyF]
  generalize w.alloc (.cells p.cells.toArray 37) = w1 at hm1 hb1 s1 ⊢
  rw [List.toList_toArray] at hb1
  have c0 : w1.cell? ⟨w.heap.size, 0, none⟩ = some (.bool p.v6) := by rw [hb1.cell]; rfl
  have hsrc : Bs w1 (some ⟨w.heap.size, 1, none⟩) p.addr := blk_bs hb1 (by simp only [PrefM.cells, List.drop_succ_cons, List.drop_zero]; exact List.take_of_length_le (by simp))
  cases hv : p.v6 with
  | true =>
    rw [hv] at c0
    simp -implicitDefEqProofs (maxSteps := 1000000) only [↓zvD, zvU, ↓zvE, zvM, init, one, Value.cells, simprocAttr, tyF, c0]
    refine bslice (z := .int .u8 0) (cells := #[.int .u8 1]) Tryz.underlying348 byteE (by omega) (by have := bcells_list (z := .int .u8 0) [.int .u8 1] (by intro v hv; simp at hv; subst hv; rfl); exact this) ?_
    have hm2 := MoreD.alloc w1 (.cells #[.int .u8 1] 5)
    have hb2 := Blk.new w1 5 #[.int .u8 1]
    have s2 := size_alloc w1 (.cells #[.int .u8 1] 5)
    generalize w1.alloc (.cells #[.int .u8 1] 5) = w2 at hm2 hb2 s2 ⊢
    simp -implicitDefEqProofs (maxSteps := 1000000) only [↓zvD, zvU, ↓zvE, zvM, init, one, Value.cells, simprocAttr, tyF]
    refine app_fullD (m := 7) Tryz.underlying348 byteE rfl hb2.cs rfl rfl (hsrc.more hm2.1) (by rw [List.length_map, hp]) (byteV_one _) (by simp only [maxLen]; omega) (by omega) (by omega) ?_
    intro c3 w3 _ ho3 hm3 hd3
    simp -implicitDefEqProofs (maxSteps := 1000000) only [↓zvD, zvU, ↓zvE, zvM, init, one, Value.cells, simprocAttr, tyF]
    refine ⟨w2.heap.size, c3, rfl, by omega, ?_, ho3.le, (hm1.trans hm2).trans ⟨hm3, hd3⟩⟩
    have hk : pkey p = 1 :: p.addr := by unfold pkey; rw [hv]; rfl
    rw [hk]
    exact ho3.cs
  | false =>
    rw [hv] at c0
    simp -implicitDefEqProofs (maxSteps := 1000000) only [↓zvD, zvU, ↓zvE, zvM, init, one, Value.cells, simprocAttr, tyF, c0]
    refine bslice (z := .int .u8 0) (cells := #[.int .u8 0]) Tryz.underlying348 byteE (by omega) (by have := bcells_list (z := .int .u8 0) [.int .u8 0] (by intro v hv; simp at hv; subst hv; rfl); exact this) ?_
    have hm2 := MoreD.alloc w1 (.cells #[.int .u8 0] 5)
    have hb2 := Blk.new w1 5 #[.int .u8 0]
    have s2 := size_alloc w1 (.cells #[.int .u8 0] 5)
    generalize w1.alloc (.cells #[.int .u8 0] 5) = w2 at hm2 hb2 s2 ⊢
    simp -implicitDefEqProofs (maxSteps := 1000000) only [↓zvD, zvU, ↓zvE, zvM, init, one, Value.cells, simprocAttr, tyF]
    refine app_fullD (m := 7) Tryz.underlying348 byteE rfl hb2.cs rfl rfl (hsrc.more hm2.1) (by rw [List.length_map, hp]) (byteV_one _) (by simp only [maxLen]; omega) (by omega) (by omega) ?_
    intro c3 w3 _ ho3 hm3 hd3
    simp -implicitDefEqProofs (maxSteps := 1000000) only [↓zvD, zvU, ↓zvE, zvM, init, one, Value.cells, simprocAttr, tyF]
    refine ⟨w2.heap.size, c3, rfl, by omega, ?_, ho3.le, (hm1.trans hm2).trans ⟨hm3, hd3⟩⟩
    have hk : pkey p = 0 :: p.addr := by unfold pkey; rw [hv]; rfl
    rw [hk]
    exact ho3.cs
theorem run_loadBytes {P : Program} {w : World} {a : Addr} {l : List UInt8} (h : Bs w (some a) l) : (Extern.Bytes.loadBytes a l.length .empty).run P w = .ok (bstr l) w := by
  have h1 := Lib.run_loadBytesX (P := P) (w := w) (l.map fun b => (b.toNat : Int)) a .empty (fun j x hx => by
    rw [List.getElem?_map] at hx
    cases hl : l[j]? with
    | none => rw [hl] at hx; cases hx
    | some b =>
      rw [hl] at hx
      simp only [Option.map_some, Option.some.injEq] at hx
      subst hx
      obtain ⟨b', hb, hc⟩ := h j (byteV b) (by rw [List.getElem?_map, hl]; rfl)
      cases hb
      exact hc)
  rw [List.length_map] at h1
  rw [h1]
  congr 1
  apply ByteArray.ext
  simp [bstr, Lib.bytesOf]
  conv => rhs; rw [← List.map_id l]
  refine List.map_congr_left fun b _ => ?_
  simp
theorem run_bytesOf {P : Program} {w : World} {A : Option Addr} {l : List UInt8} {c : Nat} (h : Bs w A l) : (Extern.Bytes.bytesOf (.slice A l.length c)).run P w = .ok (bstr l) w := by
  cases A with
  | none =>
    have : l = [] := by
      cases l with
      | nil => rfl
      | cons b r => obtain ⟨a, ha, _⟩ := h.at_ (i := 0) (by simp); cases ha
    subst this
    rfl
  | some a => exact run_loadBytes h
theorem bytes_compare (w : World) (A : Option Addr) (l : List UInt8) (c : Nat) (A' : Option Addr) (m : List UInt8) (c' : Nat) (hA : Bs w A l) (hA' : Bs w A' m) :
    Ret Tryz.prog 209 #[.slice A l.length c, .slice A' m.length c'] w fun v w' => v = .int .i64 (Lib.compareBytes l m) ∧ w' = w := by
  refine ret_of Tryz.func209 rfl (by kernel_rfl) (Nat.le_of_ble_eq_true (by kernel_rfl)) ?_
  simp -implicitDefEqProofs (maxSteps := 1000000) only [↓zvD, zvU, ↓zvE, zvM, init, one, Value.cells, simprocAttr, tyF]
  have hr : (callFunc 230 #[.slice A l.length c, .slice A' m.length c']).run Tryz.prog w = .ok (.value (.int .i64 (Lib.compareBytes l m))) w := by
    rw [run_callFunc_extern Tryz.func230 (by kernel_rfl) (by kernel_rfl) (by kernel_rfl) (e := Extern.BytealgCompare.compare) (by kernel_rfl)]
    have : (Extern.BytealgCompare.compare #[.slice A l.length c, .slice A' m.length c']).run Tryz.prog w = .ok (.int .i64 (Lib.compareBytes l m)) w := by
      show Sem.run Tryz.prog (do pure (goInt (Extern.BytealgCompare.cmp (← Extern.Bytes.bytesOf (.slice A l.length c)) (← Extern.Bytes.bytesOf (.slice A' m.length c'))))) w = _
      rw [Sem.run_bind, run_bytesOf hA]
      simp only [Result.andThen_ok]
      rw [Sem.run_bind, run_bytesOf hA']
      simp only [Result.andThen_ok, Sem.run_pure]
      rw [Lib.cmp_eq]
      rfl
    rw [this]
    rfl
  refine call_ext hr ?_
  simp -implicitDefEqProofs (maxSteps := 1000000) only [↓zvD, zvU, ↓zvE, zvM, init, one, Value.cells, simprocAttr, tyF]
theorem cmp_self : ∀ l : List UInt8, Lib.compareBytes l l = 0
  | [] => rfl
  | b :: l => by unfold Lib.compareBytes; rw [if_neg (UInt8.lt_irrefl b), if_neg (UInt8.lt_irrefl b), cmp_self l]
theorem cmp_anti : ∀ l m : List UInt8, Lib.compareBytes m l = - Lib.compareBytes l m
  | [], [] => rfl
  | [], _ :: _ => rfl
  | _ :: _, [] => rfl
  | a :: l, b :: m => by
    unfold Lib.compareBytes
    by_cases h1 : a < b
    · rw [if_neg (UInt8.lt_asymm h1), if_pos h1, if_pos h1]; rfl
    · by_cases h2 : b < a
      · rw [if_pos h2, if_neg h1, if_pos h2]
      · rw [if_neg h2, if_neg h1, if_neg h1, if_neg h2, cmp_anti l m]
theorem cmp_zero : ∀ l m : List UInt8, Lib.compareBytes l m = 0 → l = m
  | [], [], _ => rfl
  | [], _ :: _, h => by cases h
  | _ :: _, [], h => by cases h
  | a :: l, b :: m, h => by
    unfold Lib.compareBytes at h
    by_cases h1 : a < b
    · rw [if_pos h1] at h; cases h
    · by_cases h2 : b < a
      · rw [if_neg h1, if_pos h2] at h; cases h
      · rw [if_neg h1, if_neg h2] at h
        rw [cmp_zero l m h, UInt8.le_antisymm (UInt8.not_lt.1 h2) (UInt8.not_lt.1 h1)]
theorem cmp_trans : ∀ a b c : List UInt8, Lib.compareBytes a b < 0 → Lib.compareBytes b c < 0 → Lib.compareBytes a c < 0
  | [], [], _, h, _ => by cases h
  | [], _ :: _, [], _, h => by cases h
  | [], _ :: _, _ :: _, _, _ => by unfold Lib.compareBytes; decide
  | _ :: _, [], _, h, _ => by cases h
  | _ :: _, _ :: _, [], _, h => by cases h
  | x :: a, y :: b, z :: c, h, k => by
    unfold Lib.compareBytes at h k ⊢
    by_cases h1 : x < y
    · rw [if_pos h1] at h
      by_cases k1 : y < z
      · rw [if_pos (UInt8.lt_trans h1 k1)]; decide
      · by_cases k2 : z < y
        · rw [if_neg k1, if_pos k2] at k; cases k
        · have : y = z := UInt8.le_antisymm (UInt8.not_lt.1 k2) (UInt8.not_lt.1 k1)
          rw [← this, if_pos h1]; decide
    · by_cases h2 : y < x
      · rw [if_neg h1, if_pos h2] at h; cases h
      · have hxy : x = y := UInt8.le_antisymm (UInt8.not_lt.1 h2) (UInt8.not_lt.1 h1)
        subst hxy
        rw [if_neg h1, if_neg h1] at h
        by_cases k1 : x < z
        · rw [if_pos k1]; decide
        · by_cases k2 : z < x
          · rw [if_neg k1, if_pos k2] at k; cases k
          · rw [if_neg k1, if_neg k2] at k ⊢
            exact cmp_trans a b c h k
def plt (a b : PrefM) : Prop := Lib.compareBytes (pkey a) (pkey b) < 0
instance (a b : PrefM) : Decidable (plt a b) := by unfold plt; infer_instance
theorem plt_irrefl (a : PrefM) : ¬ plt a a := by unfold plt; rw [cmp_self]; decide
theorem plt_trans {a b c : PrefM} (h : plt a b) (k : plt b c) : plt a c := cmp_trans _ _ _ h k
theorem plt_total {a b : PrefM} (h : a ≠ b) : plt a b ↔ ¬ plt b a := by
  unfold plt
  rw [cmp_anti (pkey a) (pkey b)]
  have : Lib.compareBytes (pkey a) (pkey b) ≠ 0 := fun h0 => h (pkey_inj (cmp_zero _ _ h0))
  omega
end Go.Proofs.YtofhbonnojooeaaGreat

