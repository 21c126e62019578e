/-
  Texts that the law stands on, part 7.
-/
import Derived.Test.YtofhbonnojooeaaGreatKPoliceBoxed6
namespace Go.Proofs.YtofhbonnojooeaaGreat
open Go Go.RowKit Go.Proofs.RV
set_option linter.unusedSimpArgs false
set_option linter.unusedVariables false

abbrev But (q : Nat) (w w' : World) : Prop := Mod (fun k => k = q) w w'
theorem But.refl (q : Nat) (w : World) : But q w w := Mod.refl _ w
theorem But.trans {q : Nat} {a b c : World} (h : But q a b) (k : But q b c) : But q a c := Mod.trans h k
theorem But.of_more {q : Nat} {a b : World} (h : More a b) : But q a b := Mod.of_more h
theorem But.of_wr {q : Nat} {a b : World} (h : Wr q a b) : But q a b := Mod.of_wr h rfl
theorem But.below {q B : Nat} {a b : World} (h : But q a b) (hB : B ≤ q) (hs : B ≤ a.heap.size) : Below B a b := Mod.below h (fun k hk hq => by have : k = q := hq; omega) hs
theorem But.blk {q b : Nat} {e : TypeId} {cs : List Value} {w w' : World} (h : But q w w') (hb : Blk w b e cs) (hne : b ≠ q) : Blk w' b e cs := Mod.blk h hb hne
theorem But.bs {q : Nat} {A : Option Addr} {l : List UInt8} {w w' : World} (h : But q w w') (hA : Bs w A l) (hne : ∀ a, A = some a → a.block ≠ q) : Bs w' A l := Mod.cs h hA hne
theorem more_but {w w1 w2 : World} {q : Nat} (h : More w w1) (hb : But q w1 w2) (hq : w.heap.size ≤ q) : More w w2 :=
  Below.trans h (hb.below hq h.size)
theorem build_arrE {P : Program} {T e : TypeId} {n s : Nat} {z : Value} {parts : Array (Nat × Value)} {out : List Value} (hT : P.underlying T = some (.array n e)) (he : P.cellsOf e = s) (h0 : s ≠ 0) (hz : zer P T = some z)
    (hf : laid (fun i => some (i * s, s)) z.cells.toList parts.toList = some out) (w0 : World) (K : Value → Prop) : pureP P (Instr.build T parts) K = K (.agg out.toArray) := by
  subst he
  have hr : ∀ w, (Instr.build T parts).run P w = .ok (.agg out.toArray) w := by
    intro w
    unfold Instr.build
    rw [Sem.run_bind, zero_run hz]
    simp only [Result.andThen_ok]
    rw [Sem.run_bind, run_un hT]
    simp only [Result.andThen_ok]
    rw [Sem.run_bind, size_run' h0]
    simp only [Result.andThen_ok]
    rw [fill_laid _ parts.toList z.cells out hf]
    rfl
  exact pure_eq hr w0 K
theorem bslice1 {P : Program} {t e : TypeId} {z : Value} {bytes s : Nat} {cs : List Value} {w : World} {K : Value → World → Prop} (ht : P.underlying t = some (.slice e)) (hE : ElemT P e z s bytes) (h0 : 0 < s) (h24 : s ≤ 16777216) (hl : cs.length = s)
    (hK : K (.slice (some ⟨w.heap.size, 0, none⟩) 1 1) (w.alloc (.cells cs.toArray e))) : runP P (Instr.buildSlice t 1 #[(0, .agg cs.toArray)]) w K := by
  obtain ⟨i, hi, hz, hs, hby⟩ := info_parts hE
  refine ⟨_, _, ?_, hK⟩
  have hsz : (Go.sizeOf e).run P w = .ok s w := by simp [Go.sizeOf, typeInfo, hi, hs]
  have hzr : (zeroValue e).run P w = .ok z w := by simp [zeroValue, typeInfo, hi, hz]
  unfold Instr.buildSlice
  rw [Sem.run_bind, run_un ht]
  simp only [Result.andThen_ok]
  rw [Sem.run_bind, hsz]
  simp only [Result.andThen_ok]
  rw [if_neg (by omega), if_neg (by omega), Sem.run_bind, hzr]
  simp only [Result.andThen_ok]
  rw [Sem.run_bind]
  simp only [Sem.run_pure, Result.andThen_ok]
  have hf : laid (fun i => some (i * s, s)) ((Array.range (1 * s)).map (z.cells[· % z.cells.size]!)).toList [(0, .agg cs.toArray)] = some cs := by
    have hc : (Value.agg cs.toArray).cells.toList = cs := rfl
    simp only [laid, Option.bind_some, hc, Nat.zero_mul, Nat.zero_add, hl, Array.length_toList, Array.size_map, Array.size_range, Nat.one_mul, Nat.le_refl, and_self, if_true]
    rw [splice_eq _ _ _ (by simp [hl])]
    simp [hl]
  have h2 := fill_laid _ [(0, .agg cs.toArray)] _ cs hf
  rw [h2]
  rfl
theorem laid_step {place : Nat → Option (Nat × Nat)} {cs a b c vs : List Value} {i : Nat} {v : Value} {r : List (Nat × Value)} {out : List Value} (hv : v.cells.toList = vs) (hcs : cs = a ++ (b ++ c)) (hp : place i = some (a.length, b.length)) (hl : vs.length = b.length)
    (h : laid place (a ++ (vs ++ c)) r = some out) : laid place cs ((i, v) :: r) = some out := by
  subst hv hcs
  unfold laid
  rw [hp, Option.bind_some, if_pos ⟨hl, by simp [hl]⟩, splice_eq _ _ _ (by simp [hl])]
  have e1 : (a ++ (b ++ c)).take a.length = a := by simp
  have e2 : (a ++ (b ++ c)).drop (a.length + v.cells.toList.length) = c := by rw [hl]; simp [← List.drop_drop]
  simp only at hl ⊢
  rw [e1, e2, List.append_assoc]
  exact h
theorem splice_get : ∀ (vs xs : List Value) (i : Nat), i + vs.length ≤ xs.length → ∀ k, (splice xs i vs)[k]? = if i ≤ k ∧ k < i + vs.length then vs[k - i]? else xs[k]? := by
  intro vs xs i h k
  rw [splice_eq _ _ _ h]
  by_cases h1 : k < i
  · rw [if_neg (by omega), List.append_assoc, List.getElem?_append_left (by rw [List.length_take]; omega), List.getElem?_take, if_pos h1]
  · by_cases h2 : k < i + vs.length
    · rw [if_pos (by omega), List.getElem?_append_left (by rw [List.length_append, List.length_take]; omega), List.getElem?_append_right (by rw [List.length_take]; omega), List.length_take, Nat.min_eq_left (by omega)]
    · rw [if_neg (by omega), List.getElem?_append_right (by rw [List.length_append, List.length_take]; omega), List.length_append, List.length_take, Nat.min_eq_left (by omega), List.getElem?_drop]
      congr 1
      omega
theorem row_part {M : Type} {E : M → List Value} {s i j : Nat} {ms : List M} {m m' : M} {vs : List Value} (h : ∀ m ∈ ms, (E m).length = s) (hi : ms[i]? = some m) (hj : j + vs.length ≤ s) (hm : splice (E m) j vs = E m') :
    splice (ms.flatMap E) (i * s + j) vs = (ms.set i m').flatMap E := by
  have hlt : i < ms.length := (List.getElem?_eq_some_iff.1 hi).1
  have hml := h m (List.mem_of_getElem? hi)
  have hm'l : (E m').length = s := by rw [← hm, splice_length, hml]
  rw [← row_set ms h i m' hm'l hlt]
  have hf := row_fits ms h hlt
  apply List.ext_getElem?
  intro k
  rw [splice_get _ _ _ (by omega), splice_get _ _ _ (by omega), ← hm, splice_length, hml, splice_get _ _ _ (by omega)]
  by_cases h1 : i * s ≤ k ∧ k < i * s + s
  · rw [if_pos h1]
    obtain ⟨r, rfl⟩ : ∃ r, k = i * s + r := ⟨k - i * s, by omega⟩
    rw [row_cell ms h i m r hi (by omega), show i * s + r - i * s = r by omega, show i * s + r - (i * s + j) = r - j by omega]
    by_cases h2 : j ≤ r ∧ r < j + vs.length
    · rw [if_pos h2, if_pos (by omega)]
    · rw [if_neg h2, if_neg (by omega)]
  · rw [if_neg h1, if_neg (by omega)]
section
variable {M : Type} {E : M → List Value} {s : Nat}
theorem blk_elemAt {w : World} {b e : Nat} {ms : List M} (hb : Blk w b e (ms.flatMap E)) (h : ∀ m ∈ ms, (E m).length = s) {i : Nat} {m : M} (hi : ms[i]? = some m) {j : Nat} (hj : j < s) : w.cell? ⟨b, i * s + j, none⟩ = (E m)[j]? := by
  rw [hb.cell]
  exact row_cell ms h i m j hi hj
theorem blk_elem0 {w : World} {b e : Nat} {ms : List M} (hb : Blk w b e (ms.flatMap E)) (h : ∀ m ∈ ms, (E m).length = s) {i : Nat} {m : M} (hi : ms[i]? = some m) (h0 : 0 < s) : w.cell? ⟨b, i * s, none⟩ = (E m)[0]? := by
  have := blk_elemAt hb h hi h0
  rwa [Nat.add_zero] at this
theorem blk_setRow {w : World} {b e : Nat} {ms : List M} {K : World → Prop} (hb : Blk w b e (ms.flatMap E)) (h : ∀ m ∈ ms, (E m).length = s) {i : Nat} (hi : i < ms.length) {m' : M} (hm : (E m').length = s) (ho : ∀ u ∈ E m', u.oneCell' = true)
    (hK : ∀ w', Wr b w w' → Blk w' b e ((ms.set i m').flatMap E) → K w') : stRow s (E m').toArray ⟨b, i * s, none⟩ w K := by
  have hf := row_fits ms h hi
  refine st_row hb (by simp [hm]) (by omega) (by simpa using ho) fun w' h1 h2 => hK w' h1 ?_
  rwa [List.toList_toArray, row_set ms h i m' hm hi] at h2
theorem set_splice (l : List Value) (j : Nat) (v : Value) (h : j < l.length) : splice l j [v] = l.set j v := by
  rw [splice_eq _ _ _ (by simp; omega), List.set_eq_take_append_cons_drop, if_pos h]
  simp
theorem blk_setElem {w : World} {b e : Nat} {ms : List M} {K : World → Prop} {v : Value} (hb : Blk w b e (ms.flatMap E)) (h : ∀ m ∈ ms, (E m).length = s) {i j : Nat} {m m' : M} (hi : ms[i]? = some m) (hj : j < s) (hm : (E m).set j v = E m') (ho : v.oneCell' = true)
    (hK : ∀ w', Wr b w w' → Blk w' b e ((ms.set i m').flatMap E) → K w') : stCell v ⟨b, i * s + j, none⟩ w K := by
  have hlt : i < ms.length := (List.getElem?_eq_some_iff.1 hi).1
  have hf := row_fits ms h hlt
  have hml := h m (List.mem_of_getElem? hi)
  refine st_cell hb (by omega) ho fun w' h1 h2 => hK w' h1 ?_
  have hp := row_part (vs := [v]) (m' := m') h hi (j := j) (by simp; omega) (by rw [set_splice _ _ _ (by omega)]; exact hm)
  rw [set_splice _ _ _ (by omega)] at hp
  rwa [hp] at h2
theorem blk_setElem0 {w : World} {b e : Nat} {ms : List M} {K : World → Prop} {v : Value} (hb : Blk w b e (ms.flatMap E)) (h : ∀ m ∈ ms, (E m).length = s) {i : Nat} {m m' : M} (hi : ms[i]? = some m) (h0 : 0 < s) (hm : (E m).set 0 v = E m') (ho : v.oneCell' = true)
    (hK : ∀ w', Wr b w w' → Blk w' b e ((ms.set i m').flatMap E) → K w') : stCell v ⟨b, i * s, none⟩ w K := by
  have := blk_setElem (K := K) hb h hi h0 hm ho hK
  rwa [Nat.add_zero] at this
end
set_option maxRecDepth 10000
set_option maxHeartbeats 4000000

structure FlowM where
  v6 : Bool
  proto : Int
  src : List UInt8
  dst : List UInt8
  sp : Int
  dp : Int
structure FlowM.Fit (f : FlowM) : Prop where
  p0 : 0 ≤ f.proto
  p1 : f.proto < 256
  src : f.src.length = 16
  dst : f.dst.length = 16
  s0 : 0 ≤ f.sp
  s1 : f.sp < 65536
  d0 : 0 ≤ f.dp
  d1 : f.dp < 65536
def FlowM.cells (f : FlowM) : List Value := .bool f.v6 :: .int .u8 f.proto :: (f.src.map byteV ++ (f.dst.map byteV ++ [.int .u16 f.sp, .int .u16 f.dp]))
structure PrefM where
  v6 : Bool
  addr : List UInt8
def PrefM.cells (p : PrefM) : List Value := .bool p.v6 :: p.addr.map byteV
structure PackM where
  seq : Int
  flow : FlowM
  pref : PrefM
  len : Int
def PackM.cells (p : PackM) : List Value := .int .i64 p.seq :: (p.flow.cells ++ (p.pref.cells ++ [.int .i64 p.len]))
theorem FlowM.ext' {a b : FlowM} (h : a.v6 = b.v6 ∧ a.proto = b.proto ∧ a.src = b.src ∧ a.dst = b.dst ∧ a.sp = b.sp ∧ a.dp = b.dp) : a = b := by
  cases a; cases b; simp_all
theorem byteV_inj : ∀ {a b : List UInt8}, a.map byteV = b.map byteV → a = b
  | [], [], _ => rfl
  | [], _ :: _, h => by simp at h
  | _ :: _, [], h => by simp at h
  | x :: a, y :: b, h => by
    simp only [List.map_cons, List.cons.injEq] at h
    have hx : x = y := by
      have := h.1
      unfold byteV at this
      injection this with _ this
      exact UInt8.toNat_inj.1 (by omega)
    rw [hx, byteV_inj h.2]
theorem FlowM.cells_len {f : FlowM} (h : f.Fit) : f.cells.length = 36 := by simp [FlowM.cells, h.src, h.dst]
theorem FlowM.cells_inj {a b : FlowM} (ha : a.Fit) (hb : b.Fit) : a.cells = b.cells ↔ a = b := by
  refine ⟨fun h => ?_, fun h => by rw [h]⟩
  unfold FlowM.cells at h
  simp only [List.cons.injEq, Value.bool.injEq, Value.int.injEq, true_and] at h
  obtain ⟨h1, h2, h3⟩ := h
  obtain ⟨h4, h5⟩ := List.append_inj h3 (by simp [ha.src, hb.src])
  obtain ⟨h6, h7⟩ := List.append_inj h5 (by simp [ha.dst, hb.dst])
  simp only [List.cons.injEq, Value.int.injEq, true_and, and_true] at h7
  exact FlowM.ext' ⟨h1, h2, byteV_inj h4, byteV_inj h6, h7.1, h7.2⟩
theorem PrefM.cells_inj {a b : PrefM} : a.cells = b.cells ↔ a = b := by
  refine ⟨fun h => ?_, fun h => by rw [h]⟩
  unfold PrefM.cells at h
  simp only [List.cons.injEq, Value.bool.injEq] at h
  cases a; cases b
  simp only [PrefM.mk.injEq]
  exact ⟨h.1, byteV_inj h.2⟩
theorem FlowM.c0 (f : FlowM) : f.cells[0]? = some (.bool f.v6) := rfl
theorem FlowM.c1 (f : FlowM) : f.cells[1]? = some (.int .u8 f.proto) := rfl
theorem FlowM.cSrc {f : FlowM} (h : f.Fit) : (f.cells.drop 2).take 16 = f.src.map byteV := by
  simp [FlowM.cells, List.take_append, h.src]
theorem FlowM.cDst {f : FlowM} (h : f.Fit) : (f.cells.drop 18).take 16 = f.dst.map byteV := by
  simp [FlowM.cells, List.drop_append, List.take_append, h.src, h.dst]
theorem FlowM.cS {f : FlowM} (h : f.Fit) : f.cells[34]? = some (.int .u16 f.sp) := by
  simp [FlowM.cells, List.getElem?_append, h.src, h.dst]
theorem FlowM.cD {f : FlowM} (h : f.Fit) : f.cells[35]? = some (.int .u16 f.dp) := by
  simp [FlowM.cells, List.getElem?_append, h.src, h.dst]
theorem FlowM.one (f : FlowM) : ∀ u ∈ f.cells, u.oneCell' = true := by
  intro u hu
  simp only [FlowM.cells, List.mem_cons, List.mem_append, List.not_mem_nil, or_false] at hu
  rcases hu with rfl | rfl | hu | hu | rfl | rfl
  · rfl
  · rfl
  · exact byteV_one _ u hu
  · exact byteV_one _ u hu
  · rfl
  · rfl
theorem PrefM.one (p : PrefM) : ∀ u ∈ p.cells, u.oneCell' = true := by
  intro u hu
  simp only [PrefM.cells, List.mem_cons] at hu
  rcases hu with rfl | hu
  · rfl
  · exact byteV_one _ u hu
theorem PackM.one (p : PackM) : ∀ u ∈ p.cells, u.oneCell' = true := by
  intro u hu
  simp only [PackM.cells, List.mem_cons, List.mem_append, List.not_mem_nil, or_false] at hu
  rcases hu with rfl | hu | hu | rfl
  · rfl
  · exact FlowM.one _ u hu
  · exact PrefM.one _ u hu
  · rfl
theorem blk_bs {w : World} {b e i : Nat} {cs : List Value} {x : List UInt8} (h : Blk w b e cs) (hx : (cs.drop i).take x.length = x.map byteV) : Bs w (some ⟨b, i, none⟩) x := by
  intro j v hj
  refine ⟨_, rfl, ?_⟩
  rw [add_mk, h.cell]
  rw [← hx, List.getElem?_take] at hj
  split at hj
  · rw [List.getElem?_drop] at hj
    exact hj
  · cases hj
def flowZ : FlowM := ⟨false, 0, noBytes 16, noBytes 16, 0, 0⟩
def prefZ : PrefM := ⟨false, noBytes 7⟩
def packZ : PackM := ⟨0, flowZ, prefZ, 0⟩
theorem zerPref : zer Tryz.prog 37 = some (.agg prefZ.cells.toArray) := by rw [zer37]; rfl
theorem zerPack : zer Tryz.prog 39 = some (.agg packZ.cells.toArray) := by rw [zer39]; rfl
theorem flowZ_fit : flowZ.Fit := ⟨by decide, by decide, rfl, rfl, by decide, by decide, by decide, by decide⟩
theorem flow_flat {f : FlowM} (h : f.Fit) (n : Nat) : Flat Tryz.prog (n + 4) 34 f.cells :=
  flat_struct Tryz.underlying34 (by kernel_rfl)
    ⟨by decide, rfl, [.bool f.v6], _, rfl, cells4.symm, flat_bool Tryz.underlying4 _,
     by decide, rfl, [.int .u8 f.proto], _, rfl, cells5.symm, flat_int Tryz.underlying5 _,
     by decide, rfl, f.src.map byteV, _, rfl, by rw [List.length_map, h.src, cells24], flat_bytes Tryz.underlying24 Tryz.underlying5 cells5 h.src,
     by decide, by rw [List.length_map, h.src]; rfl, f.dst.map byteV, _, rfl, by rw [List.length_map, h.dst, cells24], flat_bytes Tryz.underlying24 Tryz.underlying5 cells5 h.dst,
     by decide, by rw [List.length_map, List.length_map, h.src, h.dst]; rfl, [.int .u16 f.sp], _, rfl, cells32.symm, flat_int Tryz.underlying32 _,
     by decide, by rw [List.length_map, List.length_map, h.src, h.dst]; rfl, [.int .u16 f.dp], [], rfl, cells32.symm, flat_int Tryz.underlying32 _, rfl⟩
theorem pref_flat {p : PrefM} (h : p.addr.length = 7) (n : Nat) : Flat Tryz.prog (n + 4) 37 p.cells :=
  flat_struct Tryz.underlying37 (by kernel_rfl)
    ⟨by decide, rfl, [.bool p.v6], _, rfl, cells4.symm, flat_bool Tryz.underlying4 _,
     by decide, rfl, p.addr.map byteV, [], by rw [List.append_nil], by rw [List.length_map, h, cells35], flat_bytes Tryz.underlying35 Tryz.underlying5 cells5 h, rfl⟩
theorem flow_g : Tryz.prog.eqGuardType Tryz.prog.depth 34 = false := by kernel_rfl
theorem pref_g : Tryz.prog.eqGuardType Tryz.prog.depth 37 = false := by kernel_rfl
theorem flow_tv (cs : List Value) : tv Tryz.prog 34 cs = .agg cs.toArray := by unfold tv; rw [Tryz.underlying34]
theorem pref_tv (cs : List Value) : tv Tryz.prog 37 cs = .agg cs.toArray := by unfold tv; rw [Tryz.underlying37]
open Classical in
theorem pref_eq {a b : PrefM} (ha : a.addr.length = 7) (hb : b.addr.length = 7) (w0 : World) (ox oy : Operand) (K : Value → Prop) :
    pureP Tryz.prog (do eqGuard .eql 37 ox oy (.agg a.cells.toArray) (.agg b.cells.toArray); binOp .eql 37 (.agg a.cells.toArray) (.agg b.cells.toArray)) K = K (.bool (decide (a = b))) := by
  rw [eql_flat (n := 4) pref_g ⟨pref_tv _, pref_tv _⟩ (pref_flat ha 0) (pref_flat hb 0) (by omega) w0 ox oy K]
  simp only [PrefM.cells_inj]

def tunedOk (target up down : Int) : Prop := 0 ≤ target ∧ target ≤ 1073741824 ∧ 0 ≤ up ∧ up ≤ 65536 ∧ 0 ≤ down ∧ down ≤ 65536
instance (target up down : Int) : Decidable (tunedOk target up down) := by unfold tunedOk; infer_instance
theorem blue_tuned (w : World) (t u d : Int) : Ret Tryz.prog 128 #[.int .i64 t, .int .i64 u, .int .i64 d] w fun v w' => v = .bool (decide (tunedOk t u d)) ∧ w' = w := by
  refine ret_of Tryz.func128 rfl (by kernel_rfl) (Nat.le_of_ble_eq_true (by kernel_rfl)) ?_
  by_cases h : tunedOk t u d
  · have ⟨h1, h2, h3, h4, h5, h6⟩ := h
    rw [decide_eq_true h]
    simp -implicitDefEqProofs (maxSteps := 1000000) only [↓zvD, zvU, ↓zvE, zvM, init, one, Value.cells, simprocAttr, tyF, h1, h2, h3, h4, h5, h6]
  · rw [decide_eq_false h]
    unfold tunedOk at h
    by_cases h1 : 0 ≤ t
    · by_cases h2 : t ≤ 1073741824
      · by_cases h3 : 0 ≤ u
        · by_cases h4 : u ≤ 65536
          · by_cases h5 : 0 ≤ d
            · have h6 : ¬ d ≤ 65536 := fun h6 => h ⟨h1, h2, h3, h4, h5, h6⟩
              simp -implicitDefEqProofs (maxSteps := 1000000) only [↓zvD, zvU, ↓zvE, zvM, init, one, Value.cells, simprocAttr, tyF, h1, h2, h3, h4, h5, h6]
            · simp -implicitDefEqProofs (maxSteps := 1000000) only [↓zvD, zvU, ↓zvE, zvM, init, one, Value.cells, simprocAttr, tyF, h1, h2, h3, h4, h5]
          · simp -implicitDefEqProofs (maxSteps := 1000000) only [↓zvD, zvU, ↓zvE, zvM, init, one, Value.cells, simprocAttr, tyF, h1, h2, h3, h4]
        · simp -implicitDefEqProofs (maxSteps := 1000000) only [↓zvD, zvU, ↓zvE, zvM, init, one, Value.cells, simprocAttr, tyF, h1, h2, h3]
      · simp -implicitDefEqProofs (maxSteps := 1000000) only [↓zvD, zvU, ↓zvE, zvM, init, one, Value.cells, simprocAttr, tyF, h1, h2]
    · simp -implicitDefEqProofs (maxSteps := 1000000) only [↓zvD, zvU, ↓zvE, zvM, init, one, Value.cells, simprocAttr, tyF, h1]
def blueOk (levels bins target hold up down : Int) : Prop := 1 ≤ levels ∧ levels ≤ 4 ∧ 1 ≤ bins ∧ bins ≤ 64 ∧ 0 ≤ hold ∧ hold ≤ 4611686018427387903 ∧ tunedOk target up down
structure BinM where
  bytes : Int
  changed : Int
  p : Int
def BinM.cells (b : BinM) : List Value := [.int .i64 b.bytes, .int .i64 b.changed, .int .i64 b.p]
theorem BinM.cells_len (b : BinM) : b.cells.length = 3 := rfl
theorem binE : ElemT Tryz.prog 278 (.agg (BinM.mk 0 0 0).cells.toArray) 3 24 := by unfold ElemT; kernel_rfl
def BlueNewR (levels bins target hold up down : Int) (w : World) (v : Value) (w' : World) : Prop := More w w' ∧
    (blueOk levels bins target hold up down → ∃ (b p n : Nat), v = .tuple #[.pointer (some ⟨p, 0, none⟩), .int .i64 0] ∧ (n : Int) = levels * bins ∧ w.heap.size ≤ b ∧ b < p ∧ Blk w' b 278 ((List.replicate n (BinM.mk 0 0 0)).flatMap BinM.cells) ∧
      Blk w' p 236 [.slice (some ⟨b, 0, none⟩) n n, .int .i64 levels, .int .i64 bins, .int .i64 target, .int .i64 hold, .int .i64 up, .int .i64 down]) ∧
    (¬ blueOk levels bins target hold up down → v = .tuple #[.pointer none, .int .i64 1])
theorem blue_new (w : World) (levels bins target hold up down : Int) : Ret Tryz.prog 51 #[.int .i64 levels, .int .i64 bins, .int .i64 target, .int .i64 hold, .int .i64 up, .int .i64 down] w (BlueNewR levels bins target hold up down w) := by
  refine ret_of Tryz.func51 rfl (by kernel_rfl) (Nat.le_of_ble_eq_true (by kernel_rfl)) ?_
  have no : (levels < 1 ∨ 4 < levels ∨ bins < 1 ∨ 64 < bins ∨ hold < 0 ∨ 4611686018427387903 < hold ∨ ¬ tunedOk target up down) → ¬ blueOk levels bins target hold up down := by
    intro h ⟨h1, h2, h3, h4, h5, h6, h7⟩
    rcases h with h | h | h | h | h | h | h
    · omega
    · omega
    · omega
    · omega
    · omega
    · omega
    · exact h h7
  simp -implicitDefEqProofs (maxSteps := 1000000) only [↓zvD, zvU, ↓zvE, zvM, init, one, Value.cells, simprocAttr, tyF]
  refine ⟨fun h => ⟨More.refl _, fun ho => absurd ho (no (.inl h)), fun _ => rfl⟩, fun h1 => ?_⟩
  refine ⟨fun h => ⟨More.refl _, fun ho => absurd ho (no (.inr (.inl h))), fun _ => rfl⟩, fun h2 => ?_⟩
  refine ⟨fun h => ⟨More.refl _, fun ho => absurd ho (no (.inr (.inr (.inl h)))), fun _ => rfl⟩, fun h3 => ?_⟩
  refine ⟨fun h => ⟨More.refl _, fun ho => absurd ho (no (.inr (.inr (.inr (.inl h))))), fun _ => rfl⟩, fun h4 => ?_⟩
  refine ⟨fun h => ⟨More.refl _, fun ho => absurd ho (no (.inr (.inr (.inr (.inr (.inl h)))))), fun _ => rfl⟩, fun h5 => ?_⟩
  refine ⟨fun h => ⟨More.refl _, fun ho => absurd ho (no (.inr (.inr (.inr (.inr (.inr (.inl h))))))), fun _ => rfl⟩, fun h6 => ?_⟩
  refine call_ok Tryz.call128 (blue_tuned w target up down) ?_
  rintro _ w1 ⟨rfl, rfl⟩
  by_cases h7 : tunedOk target up down
  · rw [decide_eq_true h7]
    obtain ⟨L, rfl⟩ := Int.eq_ofNat_of_zero_le (show 0 ≤ levels by omega)
    obtain ⟨B, rfl⟩ := Int.eq_ofNat_of_zero_le (show 0 ≤ bins by omega)
    have hLB : L * B ≤ 4 * 64 := Nat.mul_le_mul (by omega) (by omega)
    have em : IntKind.i64.wrap ((L : Int) * (B : Int)) = ((L * B : Nat) : Int) := by rw [show (L : Int) * (B : Int) = ((L * B : Nat) : Int) by simp]; exact w64 (by omega) (by omega)
    simp -implicitDefEqProofs (maxSteps := 1000000) only [↓zvD, zvU, ↓zvE, zvM, init, one, Value.cells, simprocAttr, tyF, em]
    refine mk_slice Tryz.underlying234 binE (by omega) (by simp only [maxLen]; omega) ?_
    have hm2 := more_alloc w1 (.cells (madeCells (BinM.mk 0 0 0).cells.toArray (L * B * 3)) 278)
    have hb2 := Blk.new w1 278 (madeCells (BinM.mk 0 0 0).cells.toArray (L * B * 3))
    have s2 := size_alloc w1 (.cells (madeCells (BinM.mk 0 0 0).cells.toArray (L * B * 3)) 278)
    rw [made_row (BinM.mk 0 0 0) (BinM.cells_len _) (by omega) _ rfl] at hb2
    rw [show (Value.agg (BinM.mk 0 0 0).cells.toArray).cells = (BinM.mk 0 0 0).cells.toArray from rfl]
    generalize w1.alloc (.cells (madeCells (BinM.mk 0 0 0).cells.toArray (L * B * 3)) 278) = w2 at hm2 hb2 s2 ⊢
    simp -implicitDefEqProofs (maxSteps := 1000000) only [↓zvD, zvU, ↓zvE, zvM, init, one, Value.cells, simprocAttr, tyF]
    rw [build_of [.slice (some ⟨w1.heap.size, 0, none⟩) (L * B) (L * B), .int .i64 L, .int .i64 B, .int .i64 target, .int .i64 hold, .int .i64 up, .int .i64 down] (by kernel_rfl) zer236 (by kernel_rfl) w2]
    simp -implicitDefEqProofs (maxSteps := 1000000) only [↓zvD, zvU, ↓zvE, zvM, init, one, Value.cells, simprocAttr, tyF]
    have hm3 := more_alloc w2 (.cells #[.slice (some ⟨w1.heap.size, 0, none⟩) (L * B) (L * B), .int .i64 L, .int .i64 B, .int .i64 target, .int .i64 hold, .int .i64 up, .int .i64 down] 236)
    refine ⟨hm2.trans hm3, fun _ => ⟨w1.heap.size, w2.heap.size, L * B, rfl, by simp, Nat.le_refl _, by omega, hb2.more hm3, Blk.new _ _ _⟩, fun hn => absurd ⟨h1, h2, h3, h4, h5, h6, h7⟩ hn⟩
  · rw [decide_eq_false h7]
    simp -implicitDefEqProofs (maxSteps := 1000000) only [↓zvD, zvU, ↓zvE, zvM, init, one, Value.cells, simprocAttr, tyF]
    exact ⟨More.refl _, fun ho => absurd ho (no (.inr (.inr (.inr (.inr (.inr (.inr h7))))))), fun _ => rfl⟩
def mayOk (n : Int) : Prop := 1 ≤ n ∧ n ≤ 4611686018427387903
instance (n : Int) : Decidable (mayOk n) := by unfold mayOk; infer_instance
theorem window_may (w : World) (n : Int) : Ret Tryz.prog 130 #[.int .i64 n] w fun v w' => v = .bool (decide (mayOk n)) ∧ w' = w := by
  refine ret_of Tryz.func130 rfl (by kernel_rfl) (Nat.le_of_ble_eq_true (by kernel_rfl)) ?_
  by_cases h1 : 1 ≤ n
  · by_cases h2 : n ≤ 4611686018427387903
    · rw [decide_eq_true (show mayOk n from ⟨h1, h2⟩)]
      simp -implicitDefEqProofs (maxSteps := 1000000) only [↓zvD, zvU, ↓zvE, zvM, init, one, Value.cells, simprocAttr, tyF, h1, h2]
    · rw [decide_eq_false (fun h => h2 h.2)]
      simp -implicitDefEqProofs (maxSteps := 1000000) only [↓zvD, zvU, ↓zvE, zvM, init, one, Value.cells, simprocAttr, tyF, h1, h2]
  · rw [decide_eq_false (fun h => h1 h.1)]
    simp -implicitDefEqProofs (maxSteps := 1000000) only [↓zvD, zvU, ↓zvE, zvM, init, one, Value.cells, simprocAttr, tyF, h1]
theorem slotE : ElemT Tryz.prog 253 (.agg #[.bool false, .int .u8 0, .int .u8 0, .int .u8 0, .int .u8 0, .int .u8 0, .int .u8 0, .int .u8 0, .int .i64 0, .int .i64 0]) 10 24 := by unfold ElemT; kernel_rfl
def SketchNewR (slots : Int) (w : World) (v : Value) (w' : World) : Prop := More w w' ∧
    (1 ≤ slots ∧ slots ≤ 64 → ∃ (b p n : Nat) (cs : List Value), v = .tuple #[.pointer (some ⟨p, 0, none⟩), .int .i64 0] ∧ (n : Int) = slots ∧ w.heap.size ≤ b ∧ b < p ∧ cs.length = n * 10 ∧ Blk w' b 253 cs ∧
      Blk w' p 335 [.slice (some ⟨b, 0, none⟩) 0 n, .int .i64 0]) ∧
    (¬ (1 ≤ slots ∧ slots ≤ 64) → v = .tuple #[.pointer none, .int .i64 1])
theorem sketch_new (w : World) (slots : Int) : Ret Tryz.prog 129 #[.int .i64 slots] w (SketchNewR slots w) := by
  refine ret_of Tryz.func129 rfl (by kernel_rfl) (Nat.le_of_ble_eq_true (by kernel_rfl)) ?_
  simp -implicitDefEqProofs (maxSteps := 1000000) only [↓zvD, zvU, ↓zvE, zvM, init, one, Value.cells, simprocAttr, tyF]
  refine ⟨fun h => ⟨More.refl _, fun ho => absurd ho.1 (by omega), fun _ => rfl⟩, fun h1 => ?_⟩
  refine ⟨fun h => ⟨More.refl _, fun ho => absurd ho.2 (by omega), fun _ => rfl⟩, fun h2 => ?_⟩
  obtain ⟨n, rfl⟩ := Int.eq_ofNat_of_zero_le (show 0 ≤ slots by omega)
  refine mk_slice2 (n := 0) Tryz.underlying333 slotE (by omega) (by simp only [maxLen]; omega) (by omega) ?_
  generalize hz : madeCells _ (n * 10) = z
  have hzl : z.toList.length = n * 10 := by rw [← hz]; simp [size_madeCells]
  clear hz
  have hm2 := more_alloc w (.cells z 253)
  have hb2 := Blk.new w 253 z
  have s2 := size_alloc w (.cells z 253)
  generalize w.alloc (.cells z 253) = w2 at hm2 hb2 s2 ⊢
  simp -implicitDefEqProofs (maxSteps := 1000000) only [↓zvD, zvU, ↓zvE, zvM, init, one, Value.cells, simprocAttr, tyF]
  rw [build_of [.slice (some ⟨w.heap.size, 0, none⟩) 0 n, .int .i64 0] (by kernel_rfl) zer335 (by kernel_rfl) w2]
  simp -implicitDefEqProofs (maxSteps := 1000000) only [↓zvD, zvU, ↓zvE, zvM, init, one, Value.cells, simprocAttr, tyF]
  have hm3 := more_alloc w2 (.cells #[.slice (some ⟨w.heap.size, 0, none⟩) 0 n, .int .i64 0] 335)
  exact ⟨hm2.trans hm3, fun _ => ⟨w.heap.size, w2.heap.size, n, _, rfl, rfl, Nat.le_refl _, by omega, hzl, hb2.more hm3, Blk.new _ _ _⟩, fun hn => absurd ⟨h1, h2⟩ hn⟩
def windowOk (slots ns th : Int) : Prop := (1 ≤ slots ∧ slots ≤ 64) ∧ mayOk ns ∧ mayOk th
def WindowNewR (slots ns th : Int) (w : World) (v : Value) (w' : World) : Prop := More w w' ∧
    (windowOk slots ns th → ∃ (b q p n : Nat) (cs : List Value), v = .tuple #[.pointer (some ⟨p, 0, none⟩), .int .i64 0] ∧ (n : Int) = slots ∧ w.heap.size ≤ b ∧ b < q ∧ q < p ∧ cs.length = n * 10 ∧ Blk w' b 253 cs ∧
      Blk w' q 335 [.slice (some ⟨b, 0, none⟩) 0 n, .int .i64 0] ∧ Blk w' p 241 [.pointer (some ⟨q, 0, none⟩), .int .i64 ns, .int .i64 th, .int .i64 0]) ∧
    (¬ windowOk slots ns th → v = .tuple #[.pointer none, .int .i64 1])
theorem window_new (w : World) (slots ns th : Int) : Ret Tryz.prog 52 #[.int .i64 slots, .int .i64 ns, .int .i64 th] w (WindowNewR slots ns th w) := by
  refine ret_of Tryz.func52 rfl (by kernel_rfl) (Nat.le_of_ble_eq_true (by kernel_rfl)) ?_
  simp -implicitDefEqProofs (maxSteps := 1000000) only [↓zvD, zvU, ↓zvE, zvM, init, one, Value.cells, simprocAttr, tyF]
  refine call_ok Tryz.call129 (sketch_new w slots) ?_
  rintro v w1 ⟨hm1, hyes, hno⟩
  by_cases hs : 1 ≤ slots ∧ slots ≤ 64
  · obtain ⟨b, q, n, cs, rfl, hn, hb, hbq, hcl, hB, hQ⟩ := hyes hs
    have hQl := hQ.lt
    simp -implicitDefEqProofs (maxSteps := 1000000) only [↓zvD, zvU, ↓zvE, zvM, init, one, Value.cells, simprocAttr, tyF]
    refine call_ok Tryz.call130 (window_may w1 ns) ?_
    rintro _ w2 ⟨rfl, rfl⟩
    by_cases h1 : mayOk ns
    · rw [decide_eq_true h1]
      simp -implicitDefEqProofs (maxSteps := 1000000) only [↓zvD, zvU, ↓zvE, zvM, init, one, Value.cells, simprocAttr, tyF]
      refine call_ok Tryz.call130 (window_may w2 th) ?_
      rintro _ w3 ⟨rfl, rfl⟩
      by_cases h2 : mayOk th
      · rw [decide_eq_true h2]
        simp -implicitDefEqProofs (maxSteps := 1000000) only [↓zvD, zvU, ↓zvE, zvM, init, one, Value.cells, simprocAttr, tyF]
        rw [build_of [.pointer (some ⟨q, 0, none⟩), .int .i64 ns, .int .i64 th, .int .i64 0] (by kernel_rfl) zer241 (by kernel_rfl) w3]
        simp -implicitDefEqProofs (maxSteps := 1000000) only [↓zvD, zvU, ↓zvE, zvM, init, one, Value.cells, simprocAttr, tyF]
        have hm4 := more_alloc w3 (.cells #[.pointer (some ⟨q, 0, none⟩), .int .i64 ns, .int .i64 th, .int .i64 0] 241)
        exact ⟨hm1.trans hm4, fun _ => ⟨b, q, w3.heap.size, n, cs, rfl, hn, hb, hbq, hQl, hcl, hB.more hm4, hQ.more hm4, Blk.new _ _ _⟩, fun hn => absurd ⟨hs, h1, h2⟩ hn⟩
      · rw [decide_eq_false h2]
        simp -implicitDefEqProofs (maxSteps := 1000000) only [↓zvD, zvU, ↓zvE, zvM, init, one, Value.cells, simprocAttr, tyF]
        exact ⟨hm1, fun h => absurd h.2.2 h2, fun _ => rfl⟩
    · rw [decide_eq_false h1]
      simp -implicitDefEqProofs (maxSteps := 1000000) only [↓zvD, zvU, ↓zvE, zvM, init, one, Value.cells, simprocAttr, tyF]
      exact ⟨hm1, fun h => absurd h.2.1 h1, fun _ => rfl⟩
  · obtain rfl := hno hs
    simp -implicitDefEqProofs (maxSteps := 1000000) only [↓zvD, zvU, ↓zvE, zvM, init, one, Value.cells, simprocAttr, tyF]
    exact ⟨hm1, fun h => absurd h.1 hs, fun _ => rfl⟩
structure PlaceM where
  state : Int
  p : PrefM
  v : List Value
def PlaceM.cells (x : PlaceM) : List Value := .int .i64 x.state :: (x.p.cells ++ x.v)
theorem placeE_box : ElemT Tryz.prog 344 (.agg (PlaceM.mk 0 prefZ [.int .i64 0, .pointer none]).cells.toArray) 11 32 := by unfold ElemT; kernel_rfl
def TableNewR_box (room : Int) (w : World) (v : Value) (w' : World) : Prop := More w w' ∧
    (1 ≤ room ∧ room ≤ 64 → ∃ (b p n : Nat), v = .tuple #[.pointer (some ⟨p, 0, none⟩), .int .i64 0] ∧ (n : Int) = 2 * room ∧ w.heap.size ≤ b ∧ b < p ∧ Blk w' b 344 ((List.replicate n (PlaceM.mk 0 prefZ [.int .i64 0, .pointer none])).flatMap PlaceM.cells) ∧
      Blk w' p 338 [.slice (some ⟨b, 0, none⟩) n n, .int .i64 room, .int .i64 0]) ∧
    (¬ (1 ≤ room ∧ room ≤ 64) → v = .tuple #[.pointer none, .int .i64 1])
theorem table_new_box (w : World) (room : Int) : Ret Tryz.prog 131 #[.int .i64 room] w (TableNewR_box room w) := by
  refine ret_of Tryz.func131 rfl (by kernel_rfl) (Nat.le_of_ble_eq_true (by kernel_rfl)) ?_
  simp -implicitDefEqProofs (maxSteps := 1000000) only [↓zvD, zvU, ↓zvE, zvM, init, one, Value.cells, simprocAttr, tyF]
  refine ⟨fun h => ⟨More.refl _, fun ho => absurd ho.1 (by omega), fun _ => rfl⟩, fun h1 => ?_⟩
  refine ⟨fun h => ⟨More.refl _, fun ho => absurd ho.2 (by omega), fun _ => rfl⟩, fun h2 => ?_⟩
  obtain ⟨r, rfl⟩ := Int.eq_ofNat_of_zero_le (show 0 ≤ room by omega)
  have em : IntKind.i64.wrap (2 * (r : Int)) = ((2 * r : Nat) : Int) := by rw [show 2 * (r : Int) = ((2 * r : Nat) : Int) by simp]; exact w64 (by omega) (by omega)
  rw [em]
  refine mk_slice Tryz.underlying336 placeE_box (by omega) (by simp only [maxLen]; omega) ?_
  rw [show (Value.agg (PlaceM.mk 0 prefZ [.int .i64 0, .pointer none]).cells.toArray).cells = (PlaceM.mk 0 prefZ [.int .i64 0, .pointer none]).cells.toArray from rfl]
  have hm2 := more_alloc w (.cells (madeCells (PlaceM.mk 0 prefZ [.int .i64 0, .pointer none]).cells.toArray (2 * r * 11)) 344)
  have hb2 := Blk.new w 344 (madeCells (PlaceM.mk 0 prefZ [.int .i64 0, .pointer none]).cells.toArray (2 * r * 11))
  have s2 := size_alloc w (.cells (madeCells (PlaceM.mk 0 prefZ [.int .i64 0, .pointer none]).cells.toArray (2 * r * 11)) 344)
  rw [made_row (E := PlaceM.cells) (s := 11) (PlaceM.mk 0 prefZ [.int .i64 0, .pointer none]) rfl (by omega) _ rfl] at hb2
  generalize w.alloc (.cells (madeCells (PlaceM.mk 0 prefZ [.int .i64 0, .pointer none]).cells.toArray (2 * r * 11)) 344) = w2 at hm2 hb2 s2 ⊢
  simp -implicitDefEqProofs (maxSteps := 1000000) only [↓zvD, zvU, ↓zvE, zvM, init, one, Value.cells, simprocAttr, tyF]
  rw [build_of [.slice (some ⟨w.heap.size, 0, none⟩) (2 * r) (2 * r), .int .i64 r, .int .i64 0] (by kernel_rfl) zer338 (by kernel_rfl) w2]
  simp -implicitDefEqProofs (maxSteps := 1000000) only [↓zvD, zvU, ↓zvE, zvM, init, one, Value.cells, simprocAttr, tyF]
  have hm3 := more_alloc w2 (.cells #[.slice (some ⟨w.heap.size, 0, none⟩) (2 * r) (2 * r), .int .i64 r, .int .i64 0] 338)
  exact ⟨hm2.trans hm3, fun _ => ⟨w.heap.size, w2.heap.size, 2 * r, rfl, by simp, Nat.le_refl _, by omega, hb2.more hm3, Blk.new _ _ _⟩, fun hn => absurd ⟨h1, h2⟩ hn⟩
def tokOk (rate burst : Int) : Prop := 0 ≤ rate ∧ rate ≤ 1073741824 ∧ 1 ≤ burst ∧ burst ≤ 1073741824
def TokNewR (rate burst : Int) (w : World) (v : Value) (w' : World) : Prop := More w w' ∧
    (tokOk rate burst → ∃ p : Nat, v = .tuple #[.pointer (some ⟨p, 0, none⟩), .int .i64 0] ∧ w.heap.size ≤ p ∧ Blk w' p 341 [.int .i64 rate, .int .i64 (burst * 1048576), .int .i64 (burst * 1048576), .int .i64 0]) ∧
    (¬ tokOk rate burst → v = .tuple #[.pointer none, .int .i64 1])
theorem shl20 (x : Int) : x * 2 ^ min 20 IntKind.i64.bits = x * 1048576 := by
  have : min 20 IntKind.i64.bits = 20 := by simp [IntKind.bits]
  rw [this]
  rfl
theorem token_new (w : World) (rate burst : Int) : Ret Tryz.prog 132 #[.int .i64 rate, .int .i64 burst] w (TokNewR rate burst w) := by
  refine ret_of Tryz.func132 rfl (by kernel_rfl) (Nat.le_of_ble_eq_true (by kernel_rfl)) ?_
  simp -implicitDefEqProofs (maxSteps := 1000000) only [↓zvD, zvU, ↓zvE, zvM, init, one, Value.cells, simprocAttr, tyF]
  refine ⟨fun h => ⟨More.refl _, fun ho => absurd ho (by unfold tokOk; omega), fun _ => rfl⟩, fun h1 => ?_⟩
  refine ⟨fun h => ⟨More.refl _, fun ho => absurd ho (by unfold tokOk; omega), fun _ => rfl⟩, fun h2 => ?_⟩
  refine ⟨fun h => ⟨More.refl _, fun ho => absurd ho (by unfold tokOk; omega), fun _ => rfl⟩, fun h3 => ?_⟩
  refine ⟨fun h => ⟨More.refl _, fun ho => absurd ho (by unfold tokOk; omega), fun _ => rfl⟩, fun h4 => ?_⟩
  have es : IntKind.i64.wrap (burst * 1048576) = burst * 1048576 := w64 (by omega) (by omega)
  have hs := shl20 burst
  simp -implicitDefEqProofs (maxSteps := 1000000) only [↓zvD, zvU, ↓zvE, zvM, init, one, Value.cells, simprocAttr, tyF, hs, es]
  rw [build_of [.int .i64 rate, .int .i64 (burst * 1048576), .int .i64 (burst * 1048576), .int .i64 0] (by kernel_rfl) zer341 (by kernel_rfl) w]
  simp -implicitDefEqProofs (maxSteps := 1000000) only [↓zvD, zvU, ↓zvE, zvM, init, one, Value.cells, simprocAttr, tyF]
  exact ⟨more_alloc _ _, fun _ => ⟨w.heap.size, rfl, Nat.le_refl _, Blk.new _ _ _⟩, fun hn => absurd ⟨h1, h2, h3, h4⟩ hn⟩
def boxOk (room term rate burst : Int) : Prop := (1 ≤ room ∧ room ≤ 64) ∧ (1 ≤ term ∧ term ≤ 4611686018427387903) ∧ tokOk rate burst
def BoxNewR (room term rate burst : Int) (w : World) (v : Value) (w' : World) : Prop := More w w' ∧
    (boxOk room term rate burst → ∃ (b q p n : Nat), v = .tuple #[.pointer (some ⟨p, 0, none⟩), .int .i64 0] ∧ (n : Int) = 2 * room ∧ w.heap.size ≤ b ∧ b < q ∧ q < p ∧ Blk w' b 344 ((List.replicate n (PlaceM.mk 0 prefZ [.int .i64 0, .pointer none])).flatMap PlaceM.cells) ∧
      Blk w' q 338 [.slice (some ⟨b, 0, none⟩) n n, .int .i64 room, .int .i64 0] ∧ Blk w' p 251 [.pointer (some ⟨q, 0, none⟩), .int .i64 term, .int .i64 rate, .int .i64 burst]) ∧
    (¬ boxOk room term rate burst → v = .tuple #[.pointer none, .int .i64 1])
theorem box_new (w : World) (room term rate burst : Int) : Ret Tryz.prog 53 #[.int .i64 room, .int .i64 term, .int .i64 rate, .int .i64 burst] w (BoxNewR room term rate burst w) := by
  refine ret_of Tryz.func53 rfl (by kernel_rfl) (Nat.le_of_ble_eq_true (by kernel_rfl)) ?_
  simp -implicitDefEqProofs (maxSteps := 1000000) only [↓zvD, zvU, ↓zvE, zvM, init, one, Value.cells, simprocAttr, tyF]
  refine call_ok Tryz.call131 (table_new_box w room) ?_
  rintro v w1 ⟨hm1, hyes, hno⟩
  by_cases hs : 1 ≤ room ∧ room ≤ 64
  · obtain ⟨b, q, n, rfl, hn, hb, hbq, hB, hQ⟩ := hyes hs
    have hQl := hQ.lt
    simp -implicitDefEqProofs (maxSteps := 1000000) only [↓zvD, zvU, ↓zvE, zvM, init, one, Value.cells, simprocAttr, tyF]
    refine ⟨fun h => ⟨hm1, fun ho => absurd ho.2.1 (by omega), fun _ => rfl⟩, fun h1 => ?_⟩
    refine ⟨fun h => ⟨hm1, fun ho => absurd ho.2.1 (by omega), fun _ => rfl⟩, fun h2 => ?_⟩
    refine call_ok Tryz.call132 (token_new w1 rate burst) ?_
    rintro v w2 ⟨hm2, hyes2, hno2⟩
    have s2 := hm2.size
    by_cases ht : tokOk rate burst
    · obtain ⟨p, rfl, _, _⟩ := hyes2 ht
      simp -implicitDefEqProofs (maxSteps := 1000000) only [↓zvD, zvU, ↓zvE, zvM, init, one, Value.cells, simprocAttr, tyF]
      rw [build_of [.pointer (some ⟨q, 0, none⟩), .int .i64 term, .int .i64 rate, .int .i64 burst] (by kernel_rfl) zer251 (by kernel_rfl) w2]
      simp -implicitDefEqProofs (maxSteps := 1000000) only [↓zvD, zvU, ↓zvE, zvM, init, one, Value.cells, simprocAttr, tyF]
      have hm3 := more_alloc w2 (.cells #[.pointer (some ⟨q, 0, none⟩), .int .i64 term, .int .i64 rate, .int .i64 burst] 251)
      exact ⟨(hm1.trans hm2).trans hm3, fun _ => ⟨b, q, w2.heap.size, n, rfl, hn, hb, hbq, by omega, hB.more (hm2.trans hm3), hQ.more (hm2.trans hm3), Blk.new _ _ _⟩, fun hn => absurd ⟨hs, ⟨h1, h2⟩, ht⟩ hn⟩
    · obtain rfl := hno2 ht
      simp -implicitDefEqProofs (maxSteps := 1000000) only [↓zvD, zvU, ↓zvE, zvM, init, one, Value.cells, simprocAttr, tyF]
      exact ⟨hm1.trans hm2, fun h => absurd h.2.2 ht, fun _ => rfl⟩
  · obtain rfl := hno hs
    simp -implicitDefEqProofs (maxSteps := 1000000) only [↓zvD, zvU, ↓zvE, zvM, init, one, Value.cells, simprocAttr, tyF]
    exact ⟨hm1, fun h => absurd h.1 hs, fun _ => rfl⟩
set_option maxHeartbeats 2000000

def countM (n : Int) : Int := max 0 (min n 4611686018427387904)
theorem countM_range (n : Int) : 0 ≤ countM n ∧ countM n ≤ 4611686018427387904 := by unfold countM; omega
theorem num_count (w : World) (n : Int) : Ret Tryz.prog 198 #[.int .i64 n] w fun v w' => v = .int .i64 (countM n) ∧ w' = w := by
  refine ret_of Tryz.func198 rfl (by kernel_rfl) (Nat.le_of_ble_eq_true (by kernel_rfl)) ?_
  simp -implicitDefEqProofs (maxSteps := 1000000) only [↓zvD, zvU, ↓zvE, zvM, init, one, Value.cells, simprocAttr, tyF]
  congr 1
  unfold countM
  split <;> split at * <;> omega
def addM (a b : Int) : Int := min (countM a + countM b) 4611686018427387904
theorem addM_range (a b : Int) : 0 ≤ addM a b ∧ addM a b ≤ 4611686018427387904 := by
  have := countM_range a; have := countM_range b
  unfold addM; omega
def add2 (a b : Int) : Nat → Int
  | 0 => 0
  | 1 => countM a
  | _ => addM a b
theorem add2_range (a b : Int) (k : Nat) : 0 ≤ add2 a b k ∧ add2 a b k ≤ 4611686018427387904 := by
  match k with
  | 0 => simp [add2]
  | 1 => exact countM_range a
  | k + 2 => exact addM_range a b
def two2 (a b : Int) : List Value := [.int .i64 a, .int .i64 b]
def AddJ (a b : Int) (q : Nat) (w : World) (v3 v9 : Value) (w' : World) : Prop :=
  ∃ k : Nat, v9 = .int .i64 k ∧ v3 = .int .i64 (add2 a b k) ∧ k ≤ 2 ∧ w' = w
theorem num_add (w : World) (a b : Int) (q : Nat) (hq : Blk w q 2 (two2 a b)) : Ret Tryz.prog 137 #[.slice (some ⟨q, 0, none⟩) 2 2] w fun v w' => v = .int .i64 (addM a b) ∧ w' = w := by
  refine ret_of Tryz.func137 rfl (by kernel_rfl) (Nat.le_of_ble_eq_true (by kernel_rfl)) ?_
  simp -implicitDefEqProofs (maxSteps := 1000000) only [↓zvD, zvU, ↓zvE, zvM, init, one, Value.cells, simprocAttr, tyF]
  refine loop_p [3, 5, 6, 9, 10, 11, 12, 13, 14, 15, 16, 17, 18, 19, 20, 21, 22] (fun e w' => AddJ a b q w (e 3) (e 9) w') (fun e _ => 2 - (numOf (e 9)).toNat) ?_ ?_
  · exact ⟨0, by simp only [hv_apply, up_apply, upO_some, upO_none, init, List.mem_cons, List.mem_range'_1, true_and, and_true, and_false, false_and, Nat.reduceLT, Nat.reduceLeDiff, Nat.reduceAdd, true_or, or_true, if_true, if_false, ↓reduceIte, Nat.reduceEqDiff, false_or, or_false, List.not_mem_nil, List.getElem?_cons_zero, List.getElem?_cons_succ, Option.getD_some]; rfl, by simp only [hv_apply, up_apply, upO_some, upO_none, init, List.mem_cons, List.mem_range'_1, true_and, and_true, and_false, false_and, Nat.reduceLT, Nat.reduceLeDiff, Nat.reduceAdd, true_or, or_true, if_true, if_false, ↓reduceIte, Nat.reduceEqDiff, false_or, or_false, List.not_mem_nil, List.getElem?_cons_zero, List.getElem?_cons_succ, Option.getD_some]; rfl, by omega, rfl⟩
  rintro v w1 ⟨k, h9, h3, hk, rfl⟩
  simp only [hv_apply, up_apply, upO_some, upO_none, init, List.mem_cons, List.mem_range'_1, true_and, and_true, and_false, false_and, Nat.reduceLT, Nat.reduceLeDiff, Nat.reduceAdd, true_or, or_true, if_true, if_false, ↓reduceIte, Nat.reduceEqDiff, false_or, or_false, List.not_mem_nil, List.getElem?_cons_zero, List.getElem?_cons_succ, Option.getD_some] at h9 h3
  have hr := add2_range a b k
  have ek : IntKind.i64.wrap ((k : Int) + 1) = ((k + 1 : Nat) : Int) := w64 (by omega) (by omega)
  simp -implicitDefEqProofs (maxSteps := 1000000) only [↓zvD, zvU, ↓zvE, zvM, init, one, Value.cells, simprocAttr, tyF, h9, h3]
  refine ⟨fun h10 => ?_, fun h10 => ?_⟩
  · obtain ⟨y, hc, hst⟩ : ∃ y, w1.cell? ⟨q, k, none⟩ = some (.int .i64 y) ∧ add2 a b (k + 1) = min (add2 a b k + countM y) 4611686018427387904 := by
      have ha := countM_range a
      have hb := countM_range b
      match k, h10 with
      | 0, _ => exact ⟨a, by rw [hq.cell]; rfl, by simp only [add2]; omega⟩
      | 1, _ => exact ⟨b, by rw [hq.cell]; rfl, by simp only [add2, addM]⟩
    have hy := countM_range y
    have g0 : (0 : Int) ≤ (k : Int) := by omega
    have es : IntKind.i64.wrap (4611686018427387904 - add2 a b k) = 4611686018427387904 - add2 a b k := w64 (by omega) (by omega)
    simp -implicitDefEqProofs (maxSteps := 1000000) only [↓zvD, zvU, ↓zvE, zvM, init, one, Value.cells, simprocAttr, tyF, h9, h3, g0, h10, hc, Int.toNat_natCast]
    refine call_ok Tryz.call198 (num_count w1 y) ?_
    rintro _ w2 ⟨rfl, rfl⟩
    simp -implicitDefEqProofs (maxSteps := 1000000) only [↓zvD, zvU, ↓zvE, zvM, init, one, Value.cells, simprocAttr, tyF, h9, h3, es]
    refine ⟨fun h11 => ?_, fun h11 => ?_⟩
    · simp -implicitDefEqProofs (maxSteps := 1000000) only [↓zvD, zvU, ↓zvE, zvM, init, one, Value.cells, simprocAttr, tyF, h9, h3, ek]
      refine ⟨⟨?_, k + 1, rfl, by congr 1; omega, by omega, rfl⟩, by simp only [numOf]; omega⟩
      repeat (first | exact Same.hv _ _ _ | refine Same.up (by simp) ?_)
    · have ea : IntKind.i64.wrap (add2 a b k + countM y) = add2 a b k + countM y := w64 (by omega) (by omega)
      simp -implicitDefEqProofs (maxSteps := 1000000) only [↓zvD, zvU, ↓zvE, zvM, init, one, Value.cells, simprocAttr, tyF, h9, h3, ek, ea]
      refine ⟨⟨?_, k + 1, rfl, by congr 1; omega, by omega, rfl⟩, by simp only [numOf]; omega⟩
      repeat (first | exact Same.hv _ _ _ | refine Same.up (by simp) ?_)
  · obtain rfl : k = 2 := by omega
    rfl

structure InM where
  rest : List UInt8
  bad : Bool

def InM.take (s : InM) (n : Int) : List UInt8 × InM := if s.bad = true ∨ n < 0 ∨ (s.rest.length : Int) < n then ([], ⟨s.rest, true⟩) else (s.rest.take n.toNat, ⟨s.rest.drop n.toNat, false⟩)

def be (l : List UInt8) : Int := l.foldl (fun x b => x * 256 + (b.toNat : Int)) 0
theorem take_ok {l : List UInt8} {n : Nat} (h : n ≤ l.length) : (InM.mk l false).take n = (l.take n, ⟨l.drop n, false⟩) := by
  unfold InM.take
  rw [if_neg (by simp; omega)]
  simp

def dig (n : Int) (k : Nat) : Int := n / (256 ^ k : Nat) % 256
theorem dig_range (n : Int) (k : Nat) : 0 ≤ dig n k ∧ dig n k < 256 := by unfold dig; omega
def numB (n : Int) : Nat → List UInt8
  | 0 => []
  | m + 1 => u8 (dig n m) :: numB n m
theorem numB_len (n : Int) : ∀ m, (numB n m).length = m
  | 0 => rfl
  | m + 1 => by rw [numB, List.length_cons, numB_len n m]
theorem shr_dig {n : Int} (h : 0 ≤ n) {q : Int} {k : Nat} (hq : q = 8 * k) (hk : k < 8) : n.fdiv (2 ^ min q.toNat IntKind.u64.bits) = n / (256 ^ k : Nat) := by
  have h1 : min q.toNat IntKind.u64.bits = 8 * k := by
    have : IntKind.u64.bits = 64 := rfl
    omega
  have h2 : (2 : Int) ^ (8 * k) = ((256 ^ k : Nat) : Int) := by
    rw [Int.pow_mul]
    simp
  rw [h1, h2, Int.fdiv_eq_ediv_of_nonneg _ (Int.natCast_nonneg _)]
theorem wrap_dig (n : Int) (k : Nat) : IntKind.u8.wrap (n / (256 ^ k : Nat)) = dig n k := by
  simp [IntKind.wrap, IntKind.signed, IntKind.bits, dig]
def OutAt (w : World) (B q : Nat) (A : Option Addr) (c : Nat) (l : List UInt8) : Prop :=
  Blk w q 395 [.slice A l.length c] ∧ Own w B 5 1 A l.length c (l.map byteV) ∧ B ≤ q ∧ ∀ k, atB A k → k ≠ q
def outS (q : Nat) (A : Option Addr) (k : Nat) : Prop := k = q ∨ atB A k
theorem OutAt.mod {w w' : World} {B q c : Nat} {A : Option Addr} {l : List UInt8} {S : Nat → Prop} (h : OutAt w B q A c l) (hm : Mod S w w') (hS : ∀ k, outS q A k → ¬ S k) : OutAt w' B q A c l :=
  ⟨hm.blk h.1 (hS q (.inl rfl)), hm.own h.2.1 fun x hx => hS _ (.inr ⟨x, hx, rfl⟩), h.2.2⟩
theorem OutAt.more {w w' : World} {B q c : Nat} {A : Option Addr} {l : List UInt8} (h : OutAt w B q A c l) (hm : More w w') : OutAt w' B q A c l := h.mod (S := fun _ => False) (Mod.of_more hm) fun _ _ h => h
theorem OutAt.ge {w : World} {B q c k : Nat} {A : Option Addr} {l : List UInt8} (h : OutAt w B q A c l) (hk : outS q A k) : B ≤ k ∧ k < w.heap.size := by
  rcases hk with rfl | hk
  · exact ⟨h.2.2.1, h.1.lt⟩
  · exact h.2.1.atB_ge hk
def OutR (w : World) (B q : Nat) (A : Option Addr) (l : List UInt8) (w' : World) : Prop := ∃ A' c', OutAt w' B q A' c' l ∧ Mod (outS q A) w w' ∧ ∀ k, outS q A' k → outS q A k ∨ w.heap.size ≤ k
theorem out_raw (w : World) (B q : Nat) (A : Option Addr) (c : Nat) (l : List UInt8) (A2 : Option Addr) (m : List UInt8) (c2 : Nat) (h : OutAt w B q A c l) (hA : Bs w A2 m) (hl : l.length ≤ 3000000) (hm : m.length ≤ 140737488351232) (hB : B ≤ w.heap.size) :
    Ret Tryz.prog 259 #[.pointer (some ⟨q, 0, none⟩), .slice A2 m.length c2] w fun v w' => v = .tuple #[] ∧ OutR w B q A (l ++ m) w' := by
  obtain ⟨hb, ho, hq, hne⟩ := h
  refine ret_of Tryz.func259 rfl (by kernel_rfl) (Nat.le_of_ble_eq_true (by kernel_rfl)) ?_
  simp -implicitDefEqProofs (maxSteps := 1000000) only [↓zvD, zvU, ↓zvE, zvM, init, one, Value.cells, simprocAttr, tyF, hb.cell]
  refine app_wide (m := m.length) Tryz.underlying348 byteE rfl (by omega) ho hA (by simp) (byteV_one m) (by simp only [maxLen]; omega) (by omega) hB ?_
  intro A' c' w1 ho1 hm1 hat
  have hb1 := hm1.blk hb fun h => hne _ h rfl
  simp -implicitDefEqProofs (maxSteps := 1000000) only [↓zvD, zvU, ↓zvE, zvM, init, one, Value.cells, simprocAttr, tyF, hb1.cell]
  refine st_cell hb1 (by simp) rfl fun w2 k1 k2 => ?_
  have hne' : ∀ k, atB A' k → k ≠ q := by
    rintro k hk rfl
    rcases hat k hk with h | h
    · exact hne k h rfl
    · have := hb.lt
      omega
  rw [← List.map_append] at ho1
  refine ⟨A', c', ⟨by simpa using k2, ?_, hq, hne'⟩, ?_, ?_⟩
  · rw [List.length_append]
    exact ho1.wr k1 fun g hg => hne' g ⟨_, hg, rfl⟩
  · exact (hm1.mono fun k _ hk => .inr hk).next (Mod.of_wr (S := fun k => k = q) k1 rfl) fun k _ hk => .inl hk
  · rintro k (rfl | hk)
    · exact .inl (.inl rfl)
    · rcases hat k hk with h | h
      · exact .inl (.inr h)
      · exact .inr (by omega)
theorem out_bytes (w : World) (B q : Nat) (A : Option Addr) (c : Nat) (l : List UInt8) (h : OutAt w B q A c l) (hl : l.length ≤ 3000000) :
    Ret Tryz.prog 261 #[.pointer (some ⟨q, 0, none⟩)] w fun v w' => ∃ A' c', v = .slice A' l.length c' ∧ Own w' w.heap.size 5 1 A' l.length c' (l.map byteV) ∧ More w w' := by
  obtain ⟨hb, ho, hq, hne⟩ := h
  refine ret_of Tryz.func261 rfl (by kernel_rfl) (Nat.le_of_ble_eq_true (by kernel_rfl)) ?_
  simp -implicitDefEqProofs (maxSteps := 1000000) only [↓zvD, zvU, ↓zvE, zvM, init, one, Value.cells, simprocAttr, tyF, hb.cell]
  refine call_ok Tryz.call265 (clone w A l c ho.cs (by omega)) ?_
  rintro _ w1 ⟨A', c', rfl, ho1, hm1⟩
  simp -implicitDefEqProofs (maxSteps := 1000000) only [↓zvD, zvU, ↓zvE, zvM, init, one, Value.cells, simprocAttr, tyF]
  exact ⟨A', c', rfl, ho1, hm1⟩

theorem numB_cut (n : Int) (m r : Nat) (h : r ≤ m) : numB n m = (numB n m).take (m - r) ++ numB n r := by
  induction m with
  | zero => obtain rfl : r = 0 := by omega
            rfl
  | succ m ih =>
    rcases Nat.eq_or_lt_of_le h with rfl | h1
    · simp
    · rw [show m + 1 - r = (m - r) + 1 by omega, numB, List.take_succ_cons, List.cons_append, ← ih (by omega)]
theorem numB_take (n : Int) (m r : Nat) (h : r + 1 ≤ m) : (numB n m).take (m - (r + 1)) ++ [u8 (dig n r)] = (numB n m).take (m - r) := by
  have h1 := numB_cut n m (r + 1) h
  rw [numB] at h1
  have hl : ((numB n m).take (m - (r + 1))).length = m - (r + 1) := by rw [List.length_take, numB_len]; omega
  generalize (numB n m).take (m - (r + 1)) = t at h1 hl ⊢
  rw [h1, show m - r = t.length + 1 by omega]
  simp [List.take_append]
  exact (List.take_of_length_le (by omega)).symm
def NumJ (w : World) (n : Int) (m : Nat) (v6 v7 : Value) (w' : World) : Prop :=
  ∃ (r : Nat) (A : Option Addr) (c : Nat), r ≤ m ∧ v7 = .int .i64 ((r : Int) - 1) ∧ v6 = .slice A (m - r) c ∧ Own w' w.heap.size 5 1 A (m - r) c (((numB n m).take (m - r)).map byteV) ∧ More w w'
theorem out_number (w : World) (B q : Nat) (A : Option Addr) (c : Nat) (l : List UInt8) (n : Int) (m : Nat) (h : OutAt w B q A c l) (hl : l.length ≤ 2900000) (hn : 0 ≤ n) (hm : m ≤ 8) (hB : B ≤ w.heap.size) :
    Ret Tryz.prog 264 #[.pointer (some ⟨q, 0, none⟩), .int .u64 n, .int .i64 m] w fun v w' => v = .tuple #[] ∧ OutR w B q A (l ++ numB n m) w' := by
  refine ret_of Tryz.func264 rfl (by kernel_rfl) (Nat.le_of_ble_eq_true (by kernel_rfl)) ?_
  have e0 : IntKind.i64.wrap ((m : Int) - 1) = (m : Int) - 1 := w64 (by omega) (by omega)
  simp -implicitDefEqProofs (maxSteps := 1000000) only [↓zvD, zvU, ↓zvE, zvM, init, one, Value.cells, simprocAttr, tyF, e0]
  refine loop_p [6, 7, 10, 11, 12, 13, 14, 15, 16, 17, 18, 19, 20, 21] (fun e w' => NumJ w n m (e 6) (e 7) w') (fun e _ => (numOf (e 7) + 1).toNat) ?_ ?_
  · refine ⟨m, none, 0, Nat.le_refl _, by simp [hv_apply, up_apply, upO_some, upO_none, init, List.mem_cons, List.mem_range'_1, true_and, and_true, and_false, false_and, Nat.reduceLT, Nat.reduceLeDiff, Nat.reduceAdd, true_or, or_true, if_true, if_false, ↓reduceIte, Nat.reduceEqDiff, false_or, or_false, List.not_mem_nil, List.getElem?_cons_zero, List.getElem?_cons_succ, Option.getD_some], by simp [hv_apply, up_apply, upO_some, upO_none, init, List.mem_cons, List.mem_range'_1, true_and, and_true, and_false, false_and, Nat.reduceLT, Nat.reduceLeDiff, Nat.reduceAdd, true_or, or_true, if_true, if_false, ↓reduceIte, Nat.reduceEqDiff, false_or, or_false, List.not_mem_nil, List.getElem?_cons_zero, List.getElem?_cons_succ, Option.getD_some], ?_, More.refl w⟩
    simpa using Own.nil _ _ _ _
  · rintro v w1 ⟨r, A1, c1, hrm, h7, h6, ho, hm1⟩
    simp only [hv_apply, up_apply, upO_some, upO_none, init, List.mem_cons, List.mem_range'_1, true_and, and_true, and_false, false_and, Nat.reduceLT, Nat.reduceLeDiff, Nat.reduceAdd, true_or, or_true, if_true, if_false, ↓reduceIte, Nat.reduceEqDiff, false_or, or_false, List.not_mem_nil, List.getElem?_cons_zero, List.getElem?_cons_succ, Option.getD_some] at h6 h7
    simp -implicitDefEqProofs (maxSteps := 1000000) only [↓zvD, zvU, ↓zvE, zvM, init, one, Value.cells, simprocAttr, tyF, h6, h7]
    refine ⟨fun h1 => ?_, fun h1 => ?_⟩
    · obtain ⟨r, rfl⟩ : ∃ r', r = r' + 1 := ⟨r - 1, by omega⟩
      have hd := dig_range n r
      have e1 : ((r + 1 : Nat) : Int) - 1 = (r : Int) := by omega
      have e2 : IntKind.i64.wrap (8 * (r : Int)) = 8 * (r : Int) := w64 (by omega) (by omega)
      have e3 : (0 : Int) ≤ 8 * (r : Int) := by omega
      have e4 : n.fdiv (2 ^ min (8 * (r : Int)).toNat IntKind.u64.bits) = n / (256 ^ r : Nat) := shr_dig hn rfl (by omega)
      have e5 : IntKind.i64.wrap ((r : Int) - 1) = (r : Int) - 1 := w64 (by omega) (by omega)
      simp -implicitDefEqProofs (maxSteps := 1000000) only [↓zvD, zvU, ↓zvE, zvM, init, one, Value.cells, simprocAttr, tyF, h6, h7, e1, e2, e3, e4, wrap_dig]
      refine bslice (z := .int .u8 0) (cells := #[.int .u8 (dig n r)]) Tryz.underlying348 byteE (by omega) (by have := bcells_list (z := .int .u8 0) [.int .u8 (dig n r)] (by intro v hv; simp at hv; subst hv; rfl); exact this) ?_
      simp -implicitDefEqProofs (maxSteps := 1000000) only [↓zvD, zvU, ↓zvE, zvM, init, one, Value.cells, simprocAttr, tyF, h6]
      have hm2 := more_alloc w1 (.cells #[.int .u8 (dig n r)] 5)
      have hb2 := Blk.new w1 5 #[.int .u8 (dig n r)]
      have s2 := size_alloc w1 (.cells #[.int .u8 (dig n r)] 5)
      have hs1 := hm1.size
      generalize w1.alloc (.cells #[.int .u8 (dig n r)] 5) = w2 at hm2 hb2 s2 ⊢
      refine app_own (m := 1) Tryz.underlying348 byteE rfl (by omega) (ho.more hm2) hb2.cs rfl (by intro u hu; simp at hu; subst hu; rfl) (by simp only [maxLen]; omega) (by omega) (by omega) ?_
      intro A3 c3 w3 ho3 hg3 _
      have hm3 : More w w3 := grown_below (ho.more hm2) (hm1.trans hm2) (by omega) hg3
      simp -implicitDefEqProofs (maxSteps := 1000000) only [↓zvD, zvU, ↓zvE, zvM, init, one, Value.cells, simprocAttr, tyF, h6, h7, e1, e5]
      refine ⟨⟨?_, r, A3, c3, by omega, rfl, by congr 1; omega, ?_, hm3⟩, by simp only [numOf]; omega⟩
      · repeat (first | exact Same.hv _ _ _ | refine Same.up (by simp) ?_)
      · rw [← numB_take n m r (by omega), List.map_append, List.map_singleton, byteV_u8 hd.1 hd.2, show m - r = m - (r + 1) + 1 by omega]
        exact ho3
    · obtain rfl : r = 0 := by omega
      have hmore := h.more hm1
      have hfull : (numB n m).take m = numB n m := List.take_of_length_le (by rw [numB_len]; omega)
      rw [Nat.sub_zero, hfull] at ho
      simp -implicitDefEqProofs (maxSteps := 1000000) only [↓zvD, zvU, ↓zvE, zvM, init, one, Value.cells, simprocAttr, tyF, h6]
      refine call_ok Tryz.call259 (by have := out_raw w1 B q A c l A1 (numB n m) c1 hmore ho.cs (by omega) (by rw [numB_len]; omega) (Nat.le_trans hB hm1.size); rw [numB_len] at this; exact this) ?_
      rintro _ w2 ⟨rfl, A4, c4, g1, g2, g3⟩
      simp -implicitDefEqProofs (maxSteps := 1000000) only [↓zvD, zvU, ↓zvE, zvM, init, one, Value.cells, simprocAttr, tyF]
      refine ⟨A4, c4, g1, (Mod.of_more hm1).trans g2, fun k hk => ?_⟩
      rcases g3 k hk with h3 | h3
      · exact .inl h3
      · exact .inr (Nat.le_trans hm1.size h3)
theorem zerOut : zer Tryz.prog 395 = some (.agg #[.slice none 0 0]) := zer395
theorem out_made (w : World) : OutAt (w.alloc (.cells #[.slice none 0 0] 395)) w.heap.size w.heap.size none 0 [] := by
  refine ⟨Blk.new w _ _, Own.nil _ _ _ _, Nat.le_refl _, fun k hk => (atB_none k hk).elim⟩
theorem out_u16 (w : World) (B q : Nat) (A : Option Addr) (c : Nat) (l : List UInt8) (n : Int) (h : OutAt w B q A c l) (hl : l.length ≤ 2900000) (hn : 0 ≤ n ∧ n < 65536) (hB : B ≤ w.heap.size) :
    Ret Tryz.prog 260 #[.pointer (some ⟨q, 0, none⟩), .int .u16 n] w fun v w' => v = .tuple #[] ∧ OutR w B q A (l ++ numB n 2) w' := by
  refine ret_of Tryz.func260 rfl (by kernel_rfl) (Nat.le_of_ble_eq_true (by kernel_rfl)) ?_
  have e1 : IntKind.u64.wrap n = n := wu64 hn.1 (by omega)
  simp -implicitDefEqProofs (maxSteps := 1000000) only [↓zvD, zvU, ↓zvE, zvM, init, one, Value.cells, simprocAttr, tyF, e1]
  refine call_ok Tryz.call264 (out_number w B q A c l n 2 h hl hn.1 (by omega) hB) ?_
  rintro _ w1 ⟨rfl, h1⟩
  simp -implicitDefEqProofs (maxSteps := 1000000) only [↓zvD, zvU, ↓zvE, zvM, init, one, Value.cells, simprocAttr, tyF]
  exact h1

theorem out_u8 (w : World) (B q : Nat) (A : Option Addr) (c : Nat) (l : List UInt8) (x : Int) (h0 : 0 ≤ x) (h1 : x < 256) (h : OutAt w B q A c l) (hl : l.length ≤ 2900000) (hB : B ≤ w.heap.size) :
    Ret Tryz.prog 258 #[.pointer (some ⟨q, 0, none⟩), .int .u8 x] w fun v w' => v = .tuple #[] ∧ OutR w B q A (l ++ [u8 x]) w' := by
  refine ret_of Tryz.func258 rfl (by kernel_rfl) (Nat.le_of_ble_eq_true (by kernel_rfl)) ?_
  simp -implicitDefEqProofs (maxSteps := 1000000) only [↓zvD, zvU, ↓zvE, zvM, init, one, Value.cells, simprocAttr, tyF]
  refine bslice (z := .int .u8 0) (cells := #[.int .u8 x]) Tryz.underlying348 byteE (by omega) (by have := bcells_list (z := .int .u8 0) [.int .u8 x] (by intro v hv; simp at hv; subst hv; rfl); exact this) ?_
  have hm1 := more_alloc w (.cells #[.int .u8 x] 5)
  have hb1 := Blk.new w 5 #[.int .u8 x]
  generalize w.alloc (.cells #[.int .u8 x] 5) = w1 at hm1 hb1 ⊢
  simp -implicitDefEqProofs (maxSteps := 1000000) only [↓zvD, zvU, ↓zvE, zvM, init, one, Value.cells, simprocAttr, tyF]
  have hs : Bs w1 (some ⟨w.heap.size, 0, none⟩) [u8 x] := by
    have := hb1.cs
    unfold Bs
    rw [List.map_singleton, byteV_u8 h0 h1]
    exact this
  refine call_ok Tryz.call259 (out_raw w1 B q A c l (some ⟨w.heap.size, 0, none⟩) [u8 x] 1 (h.more hm1) hs (by omega) (by simp) (Nat.le_trans hB hm1.size)) ?_
  rintro _ w2 ⟨rfl, A', c', g1, g2, g3⟩
  simp -implicitDefEqProofs (maxSteps := 1000000) only [↓zvD, zvU, ↓zvE, zvM, init, one, Value.cells, simprocAttr, tyF]
  exact ⟨A', c', g1, (Mod.of_more hm1).trans g2, fun k hk => (g3 k hk).imp id fun h => Nat.le_trans hm1.size h⟩
theorem out_keep {w w' : World} {B q c p e : Nat} {A : Option Addr} {l : List UInt8} {cs : List Value} (h : OutAt w B q A c l) (hm : Mod (outS q A) w w') (hb : Blk w p e cs) (hp : p < B) : Blk w' p e cs :=
  hm.blk hb fun hk => by have := (h.ge hk).1; omega
theorem out_more {w0 w w' : World} {B q c : Nat} {A : Option Addr} {l : List UInt8} (h : OutAt w B q A c l) (hm : Mod (outS q A) w w') (h0 : More w0 w) (hB : w0.heap.size ≤ B) : More w0 w' :=
  Mod.more h0 hm fun k hk hs => by have := (h.ge hs).1; omega
set_option maxHeartbeats 4000000

def ints (s : List Int) : List Value := s.map fun n => .int .i64 n
theorem ints_at {s : List Int} {k : Nat} (h : k < s.length) : (ints s)[k]? = some (.int .i64 (s.getD k 0)) := by
  simp [ints, h]
theorem int64E : ElemT Tryz.prog 2 (.int .i64 0) 1 8 := by unfold ElemT; kernel_rfl
theorem ints_len (s : List Int) : (ints s).length = s.length := by simp [ints]
theorem ints_one (s : List Int) : ∀ u ∈ ints s, u.oneCell' = true := by
  intro u hu
  obtain ⟨n, _, rfl⟩ := List.mem_map.1 hu
  rfl

def leastC : List Int := [1, 1, 1, 1, 0, 0, 1, 1, 9216, 0, 0, 1, 0, 0, 0, 1, 1, 1, 0, 1]
def mostC : List Int := [64, 4096, 4, 64, 65536, 65536, 64, 64, 1073741824, 1073741824, 1073741824, 1000000, 1073741824, 1073741824, 4611686018427387903, 4611686018427387903, 4611686018427387903, 4611686018427387903, 1073741824, 1073741824]
def rightM (c : List Int) : Prop := ∀ k, k < 20 → leastC.getD k 0 ≤ c.getD k 0 ∧ c.getD k 0 ≤ mostC.getD k 0
instance (c : List Int) : Decidable (rightM c) := by unfold rightM; infer_instance
theorem config_in (w : World) (n a b : Int) : Ret Tryz.prog 124 #[.int .i64 n, .int .i64 a, .int .i64 b] w fun v w' => v = .bool (decide (a ≤ n ∧ n ≤ b)) ∧ w' = w := by
  refine ret_of Tryz.func124 rfl (by kernel_rfl) (Nat.le_of_ble_eq_true (by kernel_rfl)) ?_
  by_cases h1 : a ≤ n
  · by_cases h2 : n ≤ b
    · rw [decide_eq_true (show a ≤ n ∧ n ≤ b from ⟨h1, h2⟩)]
      simp -implicitDefEqProofs (maxSteps := 1000000) only [↓zvD, zvU, ↓zvE, zvM, init, one, Value.cells, simprocAttr, tyF, h1, h2]
    · rw [decide_eq_false (fun h => h2 h.2)]
      simp -implicitDefEqProofs (maxSteps := 1000000) only [↓zvD, zvU, ↓zvE, zvM, init, one, Value.cells, simprocAttr, tyF, h1, h2]
  · rw [decide_eq_false (fun h => h1 h.1)]
    simp -implicitDefEqProofs (maxSteps := 1000000) only [↓zvD, zvU, ↓zvE, zvM, init, one, Value.cells, simprocAttr, tyF, h1]
def partsM (c : List Int) : Prop := blueOk (c.getD 2 0) (c.getD 3 0) (c.getD 13 0) (c.getD 14 0) (c.getD 4 0) (c.getD 5 0) ∧ windowOk (c.getD 6 0) (c.getD 15 0) (c.getD 16 0) ∧ boxOk (c.getD 7 0) (c.getD 17 0) (c.getD 18 0) (c.getD 19 0)
open Classical in
theorem config_parts (w : World) (c : List Int) (hc : c.length = 20) : Ret Tryz.prog 125 #[.agg (ints c).toArray] w fun v w' => v = .bool (decide (partsM c)) ∧ More w w' := by
  refine ret_of Tryz.func125 rfl (by kernel_rfl) (Nat.le_of_ble_eq_true (by kernel_rfl)) ?_
  have hm1 := more_alloc w (.cells (ints c).toArray 23)
  have hb1 := Blk.new w 23 (ints c).toArray
  simp -implicitDefEqProofs (maxSteps := 1000000) only [↓zvD, zvU, ↓zvE, zvM, init, one, Value.cells, simprocAttr, tyF]
  generalize w.alloc (.cells (ints c).toArray 23) = w1 at hm1 hb1 ⊢
  rw [List.toList_toArray] at hb1
  have hcell : ∀ w', More w1 w' → ∀ i, i < 20 → w'.cell? ⟨w.heap.size, i, none⟩ = some (.int .i64 (c.getD i 0)) := fun w' h i hi => by rw [(hb1.more h).cell]; exact ints_at (by omega)
  have g0 := hcell w1 (More.refl _)
  simp -implicitDefEqProofs (maxSteps := 1000000) only [↓zvD, zvU, ↓zvE, zvM, init, one, Value.cells, simprocAttr, tyF, g0 2 (by omega), g0 3 (by omega), g0 13 (by omega), g0 14 (by omega), g0 4 (by omega), g0 5 (by omega)]
  refine call_ok Tryz.call51 (blue_new w1 _ _ _ _ _ _) ?_
  rintro v2 w2 ⟨hm2, hy2, hn2⟩
  have g2 := hcell w2 hm2
  obtain ⟨p2, e2, hv2, he2⟩ : ∃ p2 e2, v2 = .tuple #[.pointer p2, .int .i64 e2] ∧ (e2 = 0 ↔ blueOk (c.getD 2 0) (c.getD 3 0) (c.getD 13 0) (c.getD 14 0) (c.getD 4 0) (c.getD 5 0)) := by
    by_cases h : blueOk (c.getD 2 0) (c.getD 3 0) (c.getD 13 0) (c.getD 14 0) (c.getD 4 0) (c.getD 5 0)
    · obtain ⟨b, p, n, hv, _⟩ := hy2 h
      exact ⟨_, _, hv, fun _ => h, fun _ => rfl⟩
    · exact ⟨_, _, hn2 h, fun h0 => absurd h0 (by decide), fun h' => absurd h' h⟩
  subst hv2
  simp -implicitDefEqProofs (maxSteps := 1000000) only [↓zvD, zvU, ↓zvE, zvM, init, one, Value.cells, simprocAttr, tyF, g2 6 (by omega), g2 15 (by omega), g2 16 (by omega)]
  refine call_ok Tryz.call52 (window_new w2 _ _ _) ?_
  rintro v3 w3 ⟨hm3, hy3, hn3⟩
  have g3 := hcell w3 (hm2.trans hm3)
  obtain ⟨p3, e3, hv3, he3⟩ : ∃ p3 e3, v3 = .tuple #[.pointer p3, .int .i64 e3] ∧ (e3 = 0 ↔ windowOk (c.getD 6 0) (c.getD 15 0) (c.getD 16 0)) := by
    by_cases h : windowOk (c.getD 6 0) (c.getD 15 0) (c.getD 16 0)
    · obtain ⟨b, q, p, n, cs, hv, _⟩ := hy3 h
      exact ⟨_, _, hv, fun _ => h, fun _ => rfl⟩
    · exact ⟨_, _, hn3 h, fun h0 => absurd h0 (by decide), fun h' => absurd h' h⟩
  subst hv3
  simp -implicitDefEqProofs (maxSteps := 1000000) only [↓zvD, zvU, ↓zvE, zvM, init, one, Value.cells, simprocAttr, tyF, g3 7 (by omega), g3 17 (by omega), g3 18 (by omega), g3 19 (by omega)]
  refine call_ok Tryz.call53 (box_new w3 _ _ _ _) ?_
  rintro v4 w4 ⟨hm4, hy4, hn4⟩
  have hm := (hm1.trans hm2).trans (hm3.trans hm4)
  obtain ⟨p4, e4, hv4, he4⟩ : ∃ p4 e4, v4 = .tuple #[.pointer p4, .int .i64 e4] ∧ (e4 = 0 ↔ boxOk (c.getD 7 0) (c.getD 17 0) (c.getD 18 0) (c.getD 19 0)) := by
    by_cases h : boxOk (c.getD 7 0) (c.getD 17 0) (c.getD 18 0) (c.getD 19 0)
    · obtain ⟨b, q, p, n, hv, _⟩ := hy4 h
      exact ⟨_, _, hv, fun _ => h, fun _ => rfl⟩
    · exact ⟨_, _, hn4 h, fun h0 => absurd h0 (by decide), fun h' => absurd h' h⟩
  subst hv4
  have hp : partsM c ↔ (e2 = 0 ∧ e3 = 0 ∧ e4 = 0) := by unfold partsM; rw [he2, he3, he4]
  have fin : ∀ b : Bool, (b = true ↔ (e2 = 0 ∧ e3 = 0 ∧ e4 = 0)) → Value.bool b = Value.bool (decide (partsM c)) := by
    intro b h
    rw [← hp] at h
    congr 1
    by_cases hp : partsM c
    · rw [decide_eq_true hp]; exact h.2 hp
    · rw [decide_eq_false hp]
      cases b
      · rfl
      · exact absurd (h.1 rfl) hp
  simp -implicitDefEqProofs (maxSteps := 1000000) only [↓zvD, zvU, ↓zvE, zvM, init, one, Value.cells, simprocAttr, tyF]
  refine ⟨fun h2 => ⟨fun h3 => ⟨?_, hm⟩, fun h3 => ⟨?_, hm⟩⟩, fun h2 => ⟨?_, hm⟩⟩
  · exact fin _ ⟨fun h => ⟨h2, h3, of_decide_eq_true h⟩, fun h => decide_eq_true h.2.2⟩
  · exact fin false ⟨fun h => (Bool.noConfusion h), fun h => absurd h.2.1 h3⟩
  · exact fin false ⟨fun h => (Bool.noConfusion h), fun h => absurd h.1 h2⟩
theorem parts_right (c : List Int) : rightM c ↔ (1 ≤ c.getD 0 0 ∧ c.getD 0 0 ≤ 64) ∧ (1 ≤ c.getD 1 0 ∧ c.getD 1 0 ≤ 4096) ∧ (9216 ≤ c.getD 8 0 ∧ c.getD 8 0 ≤ 1073741824) ∧ (1 ≤ c.getD 11 0 ∧ c.getD 11 0 ≤ 1000000) ∧
    (0 ≤ c.getD 9 0 ∧ c.getD 9 0 ≤ 1073741824) ∧ (0 ≤ c.getD 10 0 ∧ c.getD 10 0 ≤ 1073741824) ∧ (0 ≤ c.getD 12 0 ∧ c.getD 12 0 ≤ 1073741824) ∧ partsM c := by
  unfold rightM partsM blueOk windowOk boxOk tunedOk mayOk tokOk
  constructor
  · intro h
    have h0 := h 0 (by omega); have h1 := h 1 (by omega); have h2 := h 2 (by omega); have h3 := h 3 (by omega); have h4 := h 4 (by omega)
    have h5 := h 5 (by omega); have h6 := h 6 (by omega); have h7 := h 7 (by omega); have h8 := h 8 (by omega); have h9 := h 9 (by omega)
    have h10 := h 10 (by omega); have h11 := h 11 (by omega); have h12 := h 12 (by omega); have h13 := h 13 (by omega); have h14 := h 14 (by omega)
    have h15 := h 15 (by omega); have h16 := h 16 (by omega); have h17 := h 17 (by omega); have h18 := h 18 (by omega); have h19 := h 19 (by omega)
    exact ⟨h0, h1, h8, h11, h9, h10, h12, ⟨h2.1, h2.2, h3.1, h3.2, h14.1, h14.2, h13.1, h13.2, h4.1, h4.2, h5.1, h5.2⟩, ⟨h6, h15, h16⟩, h7, h17, h18.1, h18.2, h19⟩
  · rintro ⟨h0, h1, h8, h11, h9, h10, h12, ⟨a1, a2, a3, a4, a5, a6, a7, a8, a9, b1, b2, b3⟩, ⟨h6, h15, h16⟩, h7, h17, b4, b5, h19⟩ k hk
    match k, hk with
    | 0, _ => exact h0
    | 1, _ => exact h1
    | 2, _ => exact ⟨a1, a2⟩
    | 3, _ => exact ⟨a3, a4⟩
    | 4, _ => exact ⟨a9, b1⟩
    | 5, _ => exact ⟨b2, b3⟩
    | 6, _ => exact h6
    | 7, _ => exact h7
    | 8, _ => exact h8
    | 9, _ => exact h9
    | 10, _ => exact h10
    | 11, _ => exact h11
    | 12, _ => exact h12
    | 13, _ => exact ⟨a7, a8⟩
    | 14, _ => exact ⟨a5, a6⟩
    | 15, _ => exact h15
    | 16, _ => exact h16
    | 17, _ => exact h17
    | 18, _ => exact ⟨b4, b5⟩
    | 19, _ => exact h19
    | k + 20, h => omega
open Classical in
theorem config_right (w : World) (c : List Int) (hc : c.length = 20) : Ret Tryz.prog 46 #[.agg (ints c).toArray] w fun v w' => v = .bool (decide (rightM c)) ∧ More w w' := by
  refine ret_of Tryz.func46 rfl (by kernel_rfl) (Nat.le_of_ble_eq_true (by kernel_rfl)) ?_
  have hm1 := more_alloc w (.cells (ints c).toArray 23)
  have hb1 := Blk.new w 23 (ints c).toArray
  simp -implicitDefEqProofs (maxSteps := 1000000) only [↓zvD, zvU, ↓zvE, zvM, init, one, Value.cells, simprocAttr, tyF]
  generalize w.alloc (.cells (ints c).toArray 23) = w1 at hm1 hb1 ⊢
  rw [List.toList_toArray] at hb1
  have g0 : ∀ i, i < 20 → w1.cell? ⟨w.heap.size, i, none⟩ = some (.int .i64 (c.getD i 0)) := fun i hi => by rw [hb1.cell]; exact ints_at (by omega)
  have hv := hb1.all_eq 20 (by rw [ints_len, hc])
  simp -implicitDefEqProofs (maxSteps := 1000000) only [↓zvD, zvU, ↓zvE, zvM, init, one, Value.cells, simprocAttr, tyF, g0 0 (by omega)]
  refine call_ok Tryz.call124 (config_in _ _ 1 64) ?_
  rintro _ w2 ⟨rfl, rfl⟩
  by_cases h0 : 1 ≤ c.getD 0 0 ∧ c.getD 0 0 ≤ 64
  rotate_left
  · rw [decide_eq_false h0, decide_eq_false (fun h => h0 ((parts_right c).1 h).1)]
    simp -implicitDefEqProofs (maxSteps := 1000000) only [↓zvD, zvU, ↓zvE, zvM, init, one, Value.cells, simprocAttr, tyF]
    exact hm1
  rw [decide_eq_true h0]
  simp -implicitDefEqProofs (maxSteps := 1000000) only [↓zvD, zvU, ↓zvE, zvM, init, one, Value.cells, simprocAttr, tyF, g0 0 (by omega), g0 1 (by omega), g0 8 (by omega), g0 11 (by omega), g0 9 (by omega), g0 10 (by omega), g0 12 (by omega)]
  refine call_ok Tryz.call124 (config_in _ _ 1 4096) ?_
  rintro _ w2 ⟨rfl, rfl⟩
  by_cases h1 : 1 ≤ c.getD 1 0 ∧ c.getD 1 0 ≤ 4096
  rotate_left
  · rw [decide_eq_false h1, decide_eq_false (fun h => h1 ((parts_right c).1 h).2.1)]
    simp -implicitDefEqProofs (maxSteps := 1000000) only [↓zvD, zvU, ↓zvE, zvM, init, one, Value.cells, simprocAttr, tyF]
    exact hm1
  rw [decide_eq_true h1]
  simp -implicitDefEqProofs (maxSteps := 1000000) only [↓zvD, zvU, ↓zvE, zvM, init, one, Value.cells, simprocAttr, tyF, g0 0 (by omega), g0 1 (by omega), g0 8 (by omega), g0 11 (by omega), g0 9 (by omega), g0 10 (by omega), g0 12 (by omega)]
  refine call_ok Tryz.call124 (config_in _ _ 9216 1073741824) ?_
  rintro _ w2 ⟨rfl, rfl⟩
  by_cases h8 : 9216 ≤ c.getD 8 0 ∧ c.getD 8 0 ≤ 1073741824
  rotate_left
  · rw [decide_eq_false h8, decide_eq_false (fun h => h8 ((parts_right c).1 h).2.2.1)]
    simp -implicitDefEqProofs (maxSteps := 1000000) only [↓zvD, zvU, ↓zvE, zvM, init, one, Value.cells, simprocAttr, tyF]
    exact hm1
  rw [decide_eq_true h8]
  simp -implicitDefEqProofs (maxSteps := 1000000) only [↓zvD, zvU, ↓zvE, zvM, init, one, Value.cells, simprocAttr, tyF, g0 0 (by omega), g0 1 (by omega), g0 8 (by omega), g0 11 (by omega), g0 9 (by omega), g0 10 (by omega), g0 12 (by omega)]
  refine call_ok Tryz.call124 (config_in _ _ 1 1000000) ?_
  rintro _ w2 ⟨rfl, rfl⟩
  by_cases h11 : 1 ≤ c.getD 11 0 ∧ c.getD 11 0 ≤ 1000000
  rotate_left
  · rw [decide_eq_false h11, decide_eq_false (fun h => h11 ((parts_right c).1 h).2.2.2.1)]
    simp -implicitDefEqProofs (maxSteps := 1000000) only [↓zvD, zvU, ↓zvE, zvM, init, one, Value.cells, simprocAttr, tyF]
    exact hm1
  rw [decide_eq_true h11]
  simp -implicitDefEqProofs (maxSteps := 1000000) only [↓zvD, zvU, ↓zvE, zvM, init, one, Value.cells, simprocAttr, tyF, g0 0 (by omega), g0 1 (by omega), g0 8 (by omega), g0 11 (by omega), g0 9 (by omega), g0 10 (by omega), g0 12 (by omega)]
  refine call_ok Tryz.call124 (config_in _ _ 0 1073741824) ?_
  rintro _ w2 ⟨rfl, rfl⟩
  by_cases h9 : 0 ≤ c.getD 9 0 ∧ c.getD 9 0 ≤ 1073741824
  rotate_left
  · rw [decide_eq_false h9, decide_eq_false (fun h => h9 ((parts_right c).1 h).2.2.2.2.1)]
    simp -implicitDefEqProofs (maxSteps := 1000000) only [↓zvD, zvU, ↓zvE, zvM, init, one, Value.cells, simprocAttr, tyF]
    exact hm1
  rw [decide_eq_true h9]
  simp -implicitDefEqProofs (maxSteps := 1000000) only [↓zvD, zvU, ↓zvE, zvM, init, one, Value.cells, simprocAttr, tyF, g0 0 (by omega), g0 1 (by omega), g0 8 (by omega), g0 11 (by omega), g0 9 (by omega), g0 10 (by omega), g0 12 (by omega)]
  refine call_ok Tryz.call124 (config_in _ _ 0 1073741824) ?_
  rintro _ w2 ⟨rfl, rfl⟩
  by_cases h10 : 0 ≤ c.getD 10 0 ∧ c.getD 10 0 ≤ 1073741824
  rotate_left
  · rw [decide_eq_false h10, decide_eq_false (fun h => h10 ((parts_right c).1 h).2.2.2.2.2.1)]
    simp -implicitDefEqProofs (maxSteps := 1000000) only [↓zvD, zvU, ↓zvE, zvM, init, one, Value.cells, simprocAttr, tyF]
    exact hm1
  rw [decide_eq_true h10]
  simp -implicitDefEqProofs (maxSteps := 1000000) only [↓zvD, zvU, ↓zvE, zvM, init, one, Value.cells, simprocAttr, tyF, g0 0 (by omega), g0 1 (by omega), g0 8 (by omega), g0 11 (by omega), g0 9 (by omega), g0 10 (by omega), g0 12 (by omega)]
  refine call_ok Tryz.call124 (config_in _ _ 0 1073741824) ?_
  rintro _ w2 ⟨rfl, rfl⟩
  by_cases h12 : 0 ≤ c.getD 12 0 ∧ c.getD 12 0 ≤ 1073741824
  rotate_left
  · rw [decide_eq_false h12, decide_eq_false (fun h => h12 ((parts_right c).1 h).2.2.2.2.2.2.1)]
    simp -implicitDefEqProofs (maxSteps := 1000000) only [↓zvD, zvU, ↓zvE, zvM, init, one, Value.cells, simprocAttr, tyF]
    exact hm1
  rw [decide_eq_true h12]
  simp -implicitDefEqProofs (maxSteps := 1000000) only [↓zvD, zvU, ↓zvE, zvM, init, one, Value.cells, simprocAttr, tyF, g0 0 (by omega), g0 1 (by omega), g0 8 (by omega), g0 11 (by omega), g0 9 (by omega), g0 10 (by omega), g0 12 (by omega)]
  simp -implicitDefEqProofs (maxSteps := 1000000) only [↓zvD, zvU, ↓zvE, zvM, init, one, Value.cells, simprocAttr, tyF, hv]
  refine call_ok Tryz.call125 (config_parts _ c hc) ?_
  rintro _ w2 ⟨rfl, hm2⟩
  simp -implicitDefEqProofs (maxSteps := 1000000) only [↓zvD, zvU, ↓zvE, zvM, init, one, Value.cells, simprocAttr, tyF]
  refine ⟨?_, hm1.trans hm2⟩
  congr 1
  exact decide_eq_decide.2 ⟨fun h => (parts_right c).2 ⟨h0, h1, h8, h11, h9, h10, h12, h⟩, fun h => ((parts_right c).1 h).2.2.2.2.2.2.2⟩
theorem zerCfg : zer Tryz.prog 23 = some (.agg (ints (List.replicate 20 0)).toArray) := by rw [zer23]; rfl
end Go.Proofs.YtofhbonnojooeaaGreat

