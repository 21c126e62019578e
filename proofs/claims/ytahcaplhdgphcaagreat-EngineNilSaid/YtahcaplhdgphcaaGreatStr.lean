/-
  Strings, and arrays compared.
-/
import Derived.Test.YtahcaplhdgphcaaGreatOps
import Derived.Laws.BytesArg
import Derived.Laws.StructEq
namespace Go.Proofs.RV
open Go Go.RowKit
set_option linter.unusedSimpArgs false
set_option linter.unusedVariables false

/-- the string of these bytes -/
def bstr (l : List UInt8) : ByteArray := ⟨l.toArray⟩
theorem bstr_toList (l : List UInt8) : (bstr l).toList = l := by
  rw [ByteArray.toList_eq]
  rfl
theorem bstr_size (l : List UInt8) : (bstr l).size = l.length := rfl
theorem bstr_of (s : ByteArray) : bstr s.data.toList = s := rfl
theorem strOf_nums (l : List UInt8) : strOfNums (l.map fun b => (b.toNat : Int)) = bstr l := by
  unfold strOfNums bstr
  congr 2
  rw [List.map_map]
  conv => rhs; rw [← List.map_id l]
  refine List.map_congr_left fun b _ => ?_
  simp
/-- 'string(b)' -/
theorem run_bytes_str {P : Program} {S D e : TypeId} {w : World} {A : Option Addr} {l : List UInt8} {c : Nat} (hs : P.underlying S = some (.slice e)) (he : P.underlying e = some (.int .u8)) (hd : P.underlying D = some .string) (hA : Bs w A l) :
    (convert S D (.slice A l.length c)).run P w = .ok (.string (bstr l)) w := by
  cases A with
  | none =>
    have hl : l = [] := by
      cases l with
      | nil => rfl
      | cons b r =>
        obtain ⟨a, ha, _⟩ := hA.at_ (i := 0) (by simp)
        cases ha
    subst hl
    rw [run_convert_bytes_nil w S e hs he _ _ D hd]
    rfl
  | some a =>
    have h : (loadCells a l.length).run P w = .ok ((l.map fun b => (b.toNat : Int)).map (Value.int .u8)).toArray w := by
      have := run_loadCells_list (P := P) w a (l.map byteV) fun j v hj => by
        obtain ⟨a', h1, h2⟩ := hA j v hj
        cases h1
        exact h2
      rw [List.length_map] at this
      rw [this, List.map_map]
      rfl
    rw [run_convert_bytes_string w S D e _ _ _ hs he hd, run_bytesToString w a _ _ _ h, foldl_push_bytes]
    congr 2
    have := strOf_nums l
    unfold strOfNums at this
    rw [← this]
    simp [ByteArray.empty, ByteArray.emptyWithCapacity]
    rfl
theorem conv_str {P : Program} {S D e : TypeId} {w : World} {A : Option Addr} {l : List UInt8} {c : Nat} {K : Value → World → Prop} (hs : P.underlying S = some (.slice e)) (he : P.underlying e = some (.int .u8)) (hd : P.underlying D = some .string) (hA : Bs w A l)
    (hK : K (.string (bstr l)) w) : runP P (convert S D (.slice A l.length c)) w K := ⟨_, _, run_bytes_str hs he hd hA, hK⟩
theorem read_str {P : Program} {B : Nat} {S D e : TypeId} {w : World} {A : Option Addr} {l : List UInt8} {c : Nat} {K : Value → Prop} (hs : P.underlying S = some (.slice e)) (he : P.underlying e = some (.int .u8)) (hd : P.underlying D = some .string) (hA : Bs w A l) (hB : w.heap.size ≤ B)
    (hK : K (.string (bstr l))) : readP P B (convert S D (.slice A l.length c)) w K := ⟨_, fun w' hb => run_bytes_str hs he hd (hA.more (hb.mono hB)), hK⟩
theorem str_eq (a b : List UInt8) : ((bstr a).toList == (bstr b).toList) = decide (a = b) := by
  rw [bstr_toList, bstr_toList]
  rw [Bool.eq_iff_iff]
  simp

theorem Cs.isAt {w : World} {A : Option Addr} {l : List UInt8} (h : Bs w A l) (hl : 0 < l.length) : ∃ a, A = some a := by
  obtain ⟨a, ha, _⟩ := h.at_ hl
  exact ⟨a, ha⟩
theorem Cs.cellN {w : World} {a : Addr} {l : List UInt8} (h : Bs w (some a) l) {i : Nat} (hi : i < l.length) : w.cell? (a.add i) = some (.int .u8 (bt l i)) := by
  obtain ⟨a', ha, hc⟩ := h.at_ hi
  cases ha
  exact hc
theorem Cs.blk_lt {w : World} {a : Addr} {l : List UInt8} (h : Bs w (some a) l) (hl : 0 < l.length) : a.block < w.heap.size := by
  have hc := h.cellN (i := 0) hl
  rcases Nat.lt_or_ge a.block w.heap.size with h1 | h1
  · exact h1
  · unfold World.cell? at hc
    rw [add_block, Array.getElem?_eq_none h1] at hc
    cases hc
/-- the byte of a number -/
def u8 (x : Int) : UInt8 := UInt8.ofNat x.toNat
theorem byteV_u8 {x : Int} (h0 : 0 ≤ x) (h1 : x < 256) : byteV (u8 x) = .int .u8 x := by
  unfold byteV u8
  congr 1
  rw [UInt8.toNat_ofNat']
  omega
theorem u8_toNat {x : Int} (h0 : 0 ≤ x) (h1 : x < 256) : ((u8 x).toNat : Int) = x := by
  unfold u8
  rw [UInt8.toNat_ofNat']
  omega
theorem Own.of_blk {w : World} {B b : Nat} {e : TypeId} {cs : List Value} {n : Nat} (h : Blk w b e cs) (hB : B ≤ b) (hn : cs.length = n) (hm : n ≤ maxLen) : Own w B e 1 (some ⟨b, 0, none⟩) n n cs :=
  ⟨by omega, .inr ⟨b, n, cs.toArray, rfl, hB, h, Nat.le_refl _, hm, by simpa using hn, by simp [← hn]⟩⟩
/-- a slot of an owned row is written -/
theorem Own.st {w : World} {B : Nat} {e : TypeId} {n c i : Nat} {a : Addr} {xs : List Value} {v : Value} {K : World → Prop} (h : Own w B e 1 (some a) n c xs) (hi : i < n) (hv : v.oneCell' = true)
    (hK : ∀ w', Wr a.block w w' → B ≤ a.block → Own w' B e 1 (some a) n c (xs.set i v) → K w') : stCell v (a.add i) w K := by
  obtain ⟨h1, h2⟩ := h
  rcases h2 with ⟨hh, _⟩ | ⟨g, cap, cur, hh, hB, hg, hnc, hm, hs, ht⟩
  · cases hh
  · simp only [Value.slice.injEq, Option.some.injEq] at hh
    obtain ⟨rfl, -, rfl⟩ := hh
    have hb : Blk w g e cur.toList := by unfold Blk; simpa using hg
    rw [add_mk, Nat.zero_add]
    refine st_cell hb (by simp only [Array.length_toList]; omega) hv fun w' k1 k2 => hK w' k1 hB ?_
    refine ⟨by simpa using h1, .inr ⟨g, c, (cur.toList.set i v).toArray, rfl, hB, k2, hnc, hm, by simpa using hs, ?_⟩⟩
    rw [List.toList_toArray, ← ht, List.take_set]
/-- bytes that came in -/
theorem bs_of_row {w : World} {a : Option Addr} {len cap : Nat} {zs : List Int} (h : (a = none ∧ len = 0 ∧ cap = 0 ∧ zs = []) ∨
    ∃ x, a = some x ∧ len ≤ cap ∧ cap ≤ maxLen ∧ zs.length = cap ∧ (∀ i, i < zs.length → w.cell? (x.add i) = some (.int .u8 (zs.getD i 0))) ∧ ∀ n ∈ zs, (Lit.int .u8 n).wf = true) :
    ∃ l : List UInt8, l.length = len ∧ Bs w a l ∧ len ≤ cap := by
  rcases h with ⟨rfl, rfl, rfl, rfl⟩ | ⟨x, rfl, h1, h2, h3, h4, h5⟩
  · exact ⟨[], rfl, Cs.nil _ _, Nat.le_refl _⟩
  · refine ⟨(zs.take len).map u8, by simp; omega, ?_, h1⟩
    intro i v hi
    rw [List.map_map, List.getElem?_map] at hi
    cases hz : (zs.take len)[i]? with
    | none => rw [hz] at hi; cases hi
    | some n =>
      rw [hz] at hi
      simp only [Option.map_some, Option.some.injEq, Function.comp] at hi
      subst hi
      rw [List.getElem?_take] at hz
      split at hz
      · have hlt := (List.getElem?_eq_some_iff.1 hz).1
        have hw := h5 n (List.mem_of_getElem? hz)
        have hr : 0 ≤ n ∧ n < 256 := by
          have : (Lit.int IntKind.u8 n).wf = true := hw
          simp [Lit.wf, IntKind.min, IntKind.max, IntKind.signed, IntKind.bits] at this
          omega
        refine ⟨x, rfl, ?_⟩
        rw [h4 i hlt, byteV_u8 hr.1 hr.2, List.getD_eq_getElem?_getD, hz]
        rfl
      · cases hz
theorem Own.at' {w : World} {B : Nat} {e : TypeId} {n c size : Nat} {A : Option Addr} {xs : List Value} (h : Own w B e size A n c xs) (hn : 0 < n) : ∃ g, A = some ⟨g, 0, none⟩ ∧ B ≤ g ∧ g < w.heap.size := by
  rcases h.blk with ⟨_, h1⟩ | ⟨g, h1, h2, h3, _⟩
  · omega
  · exact ⟨g, h1, h2, h3⟩
theorem Own.cellG {w : World} {B g : Nat} {e : TypeId} {n c : Nat} {l : List UInt8} (h : Own w B e 1 (some ⟨g, 0, none⟩) n c (l.map byteV)) {i : Nat} (hi : i < l.length) : w.cell? ⟨g, i, none⟩ = some (.int .u8 (bt l i)) := by
  have := h.cs.cellN hi
  rwa [add_mk, Nat.zero_add] at this
theorem Own.stG {w : World} {B g : Nat} {e : TypeId} {n c i : Nat} {xs : List Value} {v : Value} {K : World → Prop} (h : Own w B e 1 (some ⟨g, 0, none⟩) n c xs) (hi : i < n) (hv : v.oneCell' = true)
    (hK : ∀ w', Wr g w w' → Own w' B e 1 (some ⟨g, 0, none⟩) n c (xs.set i v) → K w') : stCell v ⟨g, i, none⟩ w K := by
  have := h.st hi hv (K := K) fun w' h1 _ h2 => hK w' h1 h2
  rwa [add_mk, Nat.zero_add] at this
/-- rows that begin behind a block -/
theorem Own.wrLt {w w' : World} {B g e size n c : Nat} {A : Option Addr} {xs : List Value} (h : Own w B e size A n c xs) (hw : Wr g w w') (hg : g < B) : Own w' B e size A n c xs := by
  refine h.wr hw fun k hk => ?_
  rcases h.blk with ⟨h1, _⟩ | ⟨g', h1, h2, _⟩
  · rw [hk] at h1; cases h1
  · rw [hk] at h1
    injection h1 with h1
    injection h1 with h1
    omega
/-- what came in ahead of a block that is written -/
theorem Cs.below {w w' : World} {B : Nat} {A : Option Addr} {l : List UInt8} (h : Bs w A l) (hb : Below B w w') (hB : w.heap.size ≤ B) : Bs w' A l := h.more (hb.mono hB)
/-! ### Arrays of bytes -/
theorem eq_loop {P : Program} {w : World} (xs ys : List UInt8) (hl : xs.length = ys.length) (f : Nat → Option Bool × Unit → Sem (ForInStep (Option Bool × Unit)))
    (hf : ∀ j x y b, xs[j]? = some x → ys[j]? = some y → (f j b).run P w = .ok (if x = y then .yield (none, ()) else .done (some false, ())) w) :
    ∀ (k i : Nat), i + k = xs.length → (forIn (List.range' i k 1) (none, ()) f).run P w = .ok (if xs.drop i = ys.drop i then (none, ()) else (some false, ())) w
  | 0, i, h => by
    rw [List.drop_eq_nil_of_le (by omega), List.drop_eq_nil_of_le (by omega)]
    simp
  | k + 1, i, h => by
    have hx : i < xs.length := by omega
    have hy : i < ys.length := by omega
    rw [List.range'_succ, List.forIn_cons, Sem.run_bind, hf i _ _ _ (List.getElem?_eq_getElem hx) (List.getElem?_eq_getElem hy)]
    rw [List.drop_eq_getElem_cons hx, List.drop_eq_getElem_cons hy]
    by_cases hxy : xs[i] = ys[i]
    · rw [if_pos hxy]
      simp only [Result.andThen_ok]
      rw [eq_loop xs ys hl f hf k (i + 1) (by omega), hxy]
      simp only [List.cons.injEq, true_and]
    · rw [if_neg hxy, if_neg (fun hh => hxy (List.cons.inj hh).1)]
      simp only [Result.andThen_ok, Sem.run_pure]
theorem run_part_cell {P : Program} {w : World} {e : TypeId} (he : P.underlying e = some (.int .u8)) {cs : Array Value} {j : Nat} {v : Value} (hv : cs[j]? = some v) : (part e cs j).run P w = .ok v w := by
  simp [part, isAgg, run_underlying he, hv]
theorem run_eq_bytes {P : Program} {w : World} {T e : TypeId} {n : Nat} (hT : P.underlying T = some (.array n e)) (h1 : P.cellsOf e = 1) (he : P.underlying e = some (.int .u8)) {xs ys : List UInt8} (hx : xs.length = n) (hy : ys.length = n) :
    (Op.equalIn 10000 T (.agg (xs.map byteV).toArray) (.agg (ys.map byteV).toArray)).run P w = .ok (decide (xs = ys)) w := by
  rw [show (10000 : Nat) = 9999 + 1 from rfl]
  unfold Op.equalIn
  rw [Sem.run_bind, run_underlying hT]
  simp only [Result.andThen_ok]
  rw [Sem.run_bind, size_run' (by omega) w]
  simp only [Result.andThen_ok, h1]
  rw [Sem.run_bind, Std.Legacy.Range.forIn_eq_forIn_range']
  simp only [Std.Legacy.Range.size, Nat.sub_zero, Nat.add_sub_cancel, Nat.div_one, Nat.mul_one]
  rw [eq_loop xs ys (by omega) _ ?_ n 0 (by omega)]
  · by_cases h : xs = ys
    · subst h; simp
    · simp [h]
  · intro j x y b h2 h3
    rw [Sem.run_bind, run_part_cell (v := byteV x) he (by simp [h2])]
    simp only [Result.andThen_ok]
    rw [Sem.run_bind, run_part_cell (v := byteV y) he (by simp [h3])]
    simp only [Result.andThen_ok]
    rw [Sem.run_bind]
    rw [show (9999 : Nat) = 9998 + 1 from rfl]
    unfold byteV
    rw [run_equalIn_int w 9998 e .u8 .u8 _ _ he]
    simp only [Result.andThen_ok]
    by_cases h : x = y
    · subst h; simp
    · have : ¬ ((x.toNat : Int) == (y.toNat : Int)) = true := by
        simp only [beq_iff_eq, Int.natCast_inj]
        exact fun hh => h (UInt8.toNat_inj.1 hh)
      simp [this, h]
theorem eql_bytes {P : Program} {T e : TypeId} {ox oy : Operand} {n : Nat} {xs ys : List UInt8} {K : Value → Prop} (hT : P.underlying T = some (.array n e)) (h1 : P.cellsOf e = 1) (he : P.underlying e = some (.int .u8)) (hg : P.eqGuardType P.depth T = false) (hx : xs.length = n) (hy : ys.length = n)
    (hK : K (.bool (decide (xs = ys)))) : pureP P (do eqGuard .eql T ox oy (.agg (xs.map byteV).toArray) (.agg (ys.map byteV).toArray); binOp .eql T (.agg (xs.map byteV).toArray) (.agg (ys.map byteV).toArray)) K := by
  refine ⟨_, fun w => ?_, hK⟩
  rw [Sem.run_bind, run_eqGuard_agg w _ _ _ _ _ _ hg]
  simp only [Result.andThen_ok]
  rw [run_eql_struct, run_eq_bytes hT h1 he hx hy]
  rfl
theorem neq_bytes {P : Program} {T e : TypeId} {ox oy : Operand} {n : Nat} {xs ys : List UInt8} {K : Value → Prop} (hT : P.underlying T = some (.array n e)) (h1 : P.cellsOf e = 1) (he : P.underlying e = some (.int .u8)) (hg : P.eqGuardType P.depth T = false) (hx : xs.length = n) (hy : ys.length = n)
    (hK : K (.bool (!decide (xs = ys)))) : pureP P (do eqGuard .neq T ox oy (.agg (xs.map byteV).toArray) (.agg (ys.map byteV).toArray); binOp .neq T (.agg (xs.map byteV).toArray) (.agg (ys.map byteV).toArray)) K := by
  refine ⟨_, fun w => ?_, hK⟩
  rw [Sem.run_bind, run_eqGuard_agg w _ _ _ _ _ _ hg]
  simp only [Result.andThen_ok]
  rw [run_neq_struct, run_eq_bytes hT h1 he hx hy]
  rfl

/-! ### The same as equations, to be rewritten with -/
theorem pure_eq {P : Program} {s : Sem Value} {v : Value} (h : ∀ w, s.run P w = .ok v w) (w0 : World) (K : Value → Prop) : pureP P s K = K v :=
  propext ⟨fun ⟨u, h1, h2⟩ => by
    have := (h w0).symm.trans (h1 w0)
    injection this with this
    subst this
    exact h2, fun hk => ⟨v, h, hk⟩⟩
theorem runP_eq {P : Program} {s : Sem Value} {v : Value} {w w' : World} (h : s.run P w = .ok v w') (K : Value → World → Prop) : runP P s w K = K v w' :=
  propext ⟨fun ⟨u, w1, h1, h2⟩ => by
    have := h.symm.trans h1
    injection this with h3 h4
    subst h3 h4
    exact h2, fun hk => ⟨v, w', h, hk⟩⟩
theorem eql_bytes_eq {P : Program} {T e : TypeId} {n : Nat} (hT : P.underlying T = some (.array n e)) (h1 : P.cellsOf e = 1) (he : P.underlying e = some (.int .u8)) (hg : P.eqGuardType P.depth T = false) {xs ys : List UInt8} (hx : xs.length = n) (hy : ys.length = n) (w0 : World) (ox oy : Operand) (K : Value → Prop) :
    pureP P (do eqGuard .eql T ox oy (.agg (xs.map byteV).toArray) (.agg (ys.map byteV).toArray); binOp .eql T (.agg (xs.map byteV).toArray) (.agg (ys.map byteV).toArray)) K = K (.bool (decide (xs = ys))) := by
  refine pure_eq (fun w => ?_) w0 K
  rw [Sem.run_bind, run_eqGuard_agg w _ _ _ _ _ _ hg]
  simp only [Result.andThen_ok]
  rw [run_eql_struct, run_eq_bytes hT h1 he hx hy]
  rfl
theorem neq_bytes_eq {P : Program} {T e : TypeId} {n : Nat} (hT : P.underlying T = some (.array n e)) (h1 : P.cellsOf e = 1) (he : P.underlying e = some (.int .u8)) (hg : P.eqGuardType P.depth T = false) {xs ys : List UInt8} (hx : xs.length = n) (hy : ys.length = n) (w0 : World) (ox oy : Operand) (K : Value → Prop) :
    pureP P (do eqGuard .neq T ox oy (.agg (xs.map byteV).toArray) (.agg (ys.map byteV).toArray); binOp .neq T (.agg (xs.map byteV).toArray) (.agg (ys.map byteV).toArray)) K = K (.bool (!decide (xs = ys))) := by
  refine pure_eq (fun w => ?_) w0 K
  rw [Sem.run_bind, run_eqGuard_agg w _ _ _ _ _ _ hg]
  simp only [Result.andThen_ok]
  rw [run_neq_struct, run_eq_bytes hT h1 he hx hy]
  rfl
theorem conv_eq {P : Program} {S D e : TypeId} (hs : P.underlying S = some (.slice e)) (he : P.underlying e = some (.int .u8)) (hd : P.underlying D = some .string) {w : World} {A : Option Addr} {l : List UInt8} (hA : Bs w A l) (c : Nat) (K : Value → World → Prop) :
    runP P (convert S D (.slice A l.length c)) w K = K (.string (bstr l)) w := runP_eq (run_bytes_str hs he hd hA) K
/-- rows that are read from a block that is known -/
theorem Blk.row_eq {w : World} {b : Nat} {e : TypeId} {cs : List Value} (h : Blk w b e cs) (i n : Nat) (hi : i + n ≤ cs.length) (K : Value → Prop) : ldRow n ⟨b, i, none⟩ w K = K (.agg ((cs.drop i).take n).toArray) := by
  refine propext ⟨fun ⟨us, h1, h2, h3⟩ => ?_, fun hk => ld_row h hi hk⟩
  have : us = ((cs.drop i).take n).toArray := by
    apply Array.ext (by simp [h1]; omega)
    intro j hj hj'
    have h4 := h2 j (by omega)
    rw [add_mk, h.cell, Array.getElem?_eq_getElem hj, List.getElem?_eq_getElem (by omega)] at h4
    simp only [Option.some.injEq] at h4
    simp [h4]
  rw [← this]
  exact h3
theorem Blk.all_eq {w : World} {b : Nat} {e : TypeId} {cs : List Value} (h : Blk w b e cs) (n : Nat) (hn : cs.length = n) (K : Value → Prop) : ldRow n ⟨b, 0, none⟩ w K = K (.agg cs.toArray) := by
  rw [h.row_eq 0 n (by omega), List.drop_zero, List.take_of_length_le (by omega)]

/-- what lies there already is stored once more -/
theorem setCell_same {w : World} {b i : Nat} {e : TypeId} {cs : List Value} {v : Value} (h : Blk w b e cs) (hv : cs[i]? = some v) : w.setCell ⟨b, i, none⟩ v = w := by
  have h' := h
  have h2 := h.set i v
  have hs : cs.set i v = cs := by
    apply List.ext_getElem?
    intro j
    by_cases hij : i = j
    · subst hij
      rw [List.getElem?_set_self (List.getElem?_eq_some_iff.1 hv).1, hv]
    · rw [List.getElem?_set_ne hij]
  rw [hs] at h2
  have hw := wr_setCell w b i v
  have : (w.setCell ⟨b, i, none⟩ v).heap = w.heap := by
    apply Array.ext_getElem?
    intro k
    by_cases hk : k = b
    · subst hk
      unfold Blk at h2 h'
      rw [h2, h']
    · exact hw.block k hk
  have h3 : w.setCell ⟨b, i, none⟩ v = { w with heap := (w.setCell ⟨b, i, none⟩ v).heap } := rfl
  rw [h3, this]
theorem setCells_same {b : Nat} {e : TypeId} {cs : List Value} {w : World} (h : Blk w b e cs) : ∀ (vs : List Value) (i : Nat), (∀ j, j < vs.length → cs[i + j]? = vs[j]?) → w.setCells b i vs = w
  | [], i, _ => rfl
  | v :: r, i, hv => by
    rw [World.setCells, setCell_same h (by simpa using hv 0 (by simp))]
    exact setCells_same h r (i + 1) fun j hj => by
      have := hv (j + 1) (by simpa using hj)
      rw [Nat.add_assoc, Nat.add_comm 1 j]
      simpa using this
theorem st_same_eq {w : World} {b n : Nat} {e : TypeId} {cs : List Value} (h : Blk w b e cs) (hn : cs.length = n) (h1 : ∀ u ∈ cs, u.oneCell' = true) (K : World → Prop) : stRow n cs.toArray ⟨b, 0, none⟩ w K = K w := by
  have hw : w.setCells b 0 cs.toArray.toList = w := setCells_same h _ 0 fun j hj => by simp
  refine propext ⟨fun ⟨_, _, _, _, hk⟩ => ?_, fun hk => ?_⟩
  · rw [hw] at hk
    exact hk
  · refine ⟨rfl, by simpa using hn, fun j hj => ⟨?_, h.frozen _⟩, fun u hu => h1 u (by simpa using hu), by rw [hw]; exact hk⟩
    rw [h.cell, List.getElem?_eq_getElem (show 0 + j < cs.length by omega)]
    rfl
theorem build_eq {P : Program} {T : TypeId} {fs : Array Field} {z : Value} (hT : P.underlying T = some (.struct fs)) (hz : zer P T = some z) (hs : ∀ f ∈ fs, P.cellsOf f.type ≠ 0) {parts : Array (Nat × Value)} {out : List Value}
    (hf : laid (fun i => (fs[i]?).map fun f => (f.offset, P.cellsOf f.type)) z.cells.toList parts.toList = some out) (w0 : World) (K : Value → Prop) : pureP P (Instr.build T parts) K = K (.agg out.toArray) := by
  obtain ⟨v, hv, rfl⟩ := build_struct (K := fun v => v = .agg out.toArray) hT hz hs hf rfl
  exact pure_eq hv w0 K
theorem build0_eq {P : Program} {T : TypeId} {fs : Array Field} {cs : Array Value} (hT : P.underlying T = some (.struct fs)) (hz : zer P T = some (.agg cs)) (hs : ∀ f ∈ fs, P.cellsOf f.type ≠ 0) (w0 : World) (K : Value → Prop) : pureP P (Instr.build T #[]) K = K (.agg cs) := by
  rw [build_eq (out := cs.toList) hT hz hs rfl w0]

/-! ### Loads that wait until the cell is known -/
def ldC (d : TypeDesc) (o : Option Value) (K : Value → Prop) (_ : Mark K) : Prop :=
  match d with
  | .int k => ∃ x, o = some (.int k x) ∧ K (.int k x)
  | .bool => ∃ x, o = some (.bool x) ∧ K (.bool x)
  | .string => ∃ x, o = some (.string x) ∧ K (.string x)
  | .pointer _ => ∃ x, o = some (.pointer x) ∧ K (.pointer x)
  | .slice _ => ∃ A m c, o = some (.slice A m c) ∧ K (.slice A m c)
  | _ => False
section
variable {w : World}
theorem hc_int (k : IntKind) (n : Nat) (a : Addr) (K : Value → Prop) : ldO (some (.int k)) n a w K = ldC (.int k) (w.cell? a) K .mk := propext Iff.rfl
theorem hc_bool (n : Nat) (a : Addr) (K : Value → Prop) : ldO (some .bool) n a w K = ldC .bool (w.cell? a) K .mk := propext Iff.rfl
theorem hc_string (n : Nat) (a : Addr) (K : Value → Prop) : ldO (some .string) n a w K = ldC .string (w.cell? a) K .mk := propext Iff.rfl
theorem hc_pointer (k : TypeId) (n : Nat) (a : Addr) (K : Value → Prop) : ldO (some (.pointer k)) n a w K = ldC (.pointer k) (w.cell? a) K .mk := propext Iff.rfl
theorem hc_slice (k : TypeId) (n : Nat) (a : Addr) (K : Value → Prop) : ldO (some (.slice k)) n a w K = ldC (.slice k) (w.cell? a) K .mk := propext Iff.rfl
theorem lc_int (k : IntKind) (x : Int) (K : Value → Prop) (m : Mark K) : ldC (.int k) (some (.int k x)) K m = K (.int k x) := by simp [ldC]
theorem lc_bool (x : Bool) (K : Value → Prop) (m : Mark K) : ldC .bool (some (.bool x)) K m = K (.bool x) := by simp [ldC]
theorem lc_string (x : ByteArray) (K : Value → Prop) (m : Mark K) : ldC .string (some (.string x)) K m = K (.string x) := by simp [ldC]
theorem lc_pointer (t : TypeId) (x : Option Addr) (K : Value → Prop) (m : Mark K) : ldC (.pointer t) (some (.pointer x)) K m = K (.pointer x) := by simp [ldC]
theorem lc_slice (t : TypeId) (A : Option Addr) (n c : Nat) (K : Value → Prop) (m : Mark K) : ldC (.slice t) (some (.slice A n c)) K m = K (.slice A n c) := propext ⟨fun ⟨A', n', c', h, hk⟩ => by
  simp only [Option.some.injEq, Value.slice.injEq] at h
  obtain ⟨rfl, rfl, rfl⟩ := h
  exact hk, fun hk => ⟨A, n, c, rfl, hk⟩⟩
end
/-! ### Branches that wait until the condition is known -/
def condB (b : Bool) (A B : Prop) (_ : Mark A) (_ : Mark B) : Prop := condP (.bool b) A B
def pickB (b : Bool) (x y : Value) (K : Value → Prop) (_ : Mark K) : Prop := K (if b = true then x else y)
theorem dx (b : Bool) (A B : Prop) : condP (.bool b) A B = condB b A B .mk .mk := propext Iff.rfl
theorem gx_t (b : Bool) (t : Nat) (e : Env) (A B : Env → Prop) : guardB (.bool b) t true e A B = condB b (A (up e t (.bool true))) (B (up e t (.bool false))) .mk .mk := by
  simp [guardB, condB, condP]
theorem gx_f (b : Bool) (t : Nat) (e : Env) (A B : Env → Prop) : guardB (.bool b) t false e A B = condB b (B (up e t (.bool true))) (A (up e t (.bool false))) .mk .mk := by
  simp [guardB, condB, condP]
  exact And.comm
theorem kx (b : Bool) (x y : Value) (K : Value → Prop) : pickP (.bool b) x y K = pickB b x y K .mk := propext Iff.rfl
theorem px_true (x y : Value) (K : Value → Prop) (m : Mark K) : pickB true x y K m = K x := propext Iff.rfl
theorem px_false (x y : Value) (K : Value → Prop) (m : Mark K) : pickB false x y K m = K y := propext Iff.rfl
section
variable (A B : Prop) (m : Mark A) (m' : Mark B)
theorem cx_true : condB true A B m m' = A := by simp [condB, condP]
theorem cx_false : condB false A B m m' = B := by simp [condB, condP]
theorem cx_decide (p : Prop) [Decidable p] : condB (decide p) A B m m' = ((p → A) ∧ (¬p → B)) := by simp [condB, condP]
theorem cx_not (b : Bool) : condB (!b) A B m m' = condB b B A .mk .mk := by cases b <;> simp [condB, condP]
theorem cx_beq (a b : List UInt8) : condB (a == b) A B m m' = ((a = b → A) ∧ (a ≠ b → B)) := by
  simp [condB, condP]
theorem cx_none {α : Type} (o : Option α) : condB o.isNone A B m m' = ((o = none → A) ∧ (o ≠ none → B)) := by
  cases o <;> simp [condB, condP]
theorem cx_bool (b : Bool) : condB b A B m m' = ((b = true → A) ∧ (b = false → B)) := by simp [condB, condP]
end
/-- 'l[i]', its address and then the byte -/
theorem Cs.ixN {w : World} {A : Option Addr} {l : List UInt8} (h : Bs w A l) {i : Nat} (hi : i < l.length) {K : Addr → Value → Prop} {m : ∀ a, Mark (K a)} (hK : ∀ a, K a (.int .u8 (bt l i))) :
    ∃ a, A = some a ∧ ldC (.int .u8) (w.cell? (a.add i)) (K a) (m a) := by
  obtain ⟨a, ha, hc⟩ := h.at_ hi
  exact ⟨a, ha, by rw [hc, lc_int]; exact hK a⟩
theorem Cs.ix {w : World} {A : Option Addr} {l : List UInt8} (h : Bs w A l) {j : Int} (h0 : 0 ≤ j) (h1 : j < l.length) {K : Addr → Value → Prop} {m : ∀ a, Mark (K a)} (hK : ∀ a, K a (.int .u8 (bt l j.toNat))) :
    ∃ a, A = some a ∧ ldC (.int .u8) (w.cell? (a.add j.toNat)) (K a) (m a) := h.ixN (by omega) hK
end Go.Proofs.RV
