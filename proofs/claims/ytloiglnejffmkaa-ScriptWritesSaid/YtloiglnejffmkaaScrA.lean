/-
  Layer 31: an operation of bytes.
-/
import Derived.Test.YtloiglnejffmkaaCfgD
namespace Go.Proofs.Ytloiglnejffmkaa
open Go Go.RowKit Go.Proofs.RV
set_option linter.unusedSimpArgs false
set_option linter.unusedVariables false
set_option maxRecDepth 10000
set_option maxHeartbeats 4000000

theorem build_arrE {P : Program} {T e : TypeId} {n s : Nat} {z : Value} {parts : Array (Nat × Value)} {out : List Value} (hT : P.underlying T = some (.array n e)) (he : P.cellsOf e = s) (h0 : s ≠ 0) (hz : zer P T = some z)
    (hf : laid (fun i => some (i * s, s)) z.cells.toList parts.toList = some out) (w0 : World) (K : Value → Prop) : pureP P (Instr.build T parts) K = K (.agg out.toArray) := by
  subst he
  have hr : ∀ w, (Instr.build T parts).run P w = .ok (.agg out.toArray) w := by
    intro w
    unfold Instr.build
    rw [Sem.run_bind, zero_run hz]
    simp only [Result.andThen_ok]
    rw [Sem.run_bind, run_un hT]
    simp only [Result.andThen_ok]
    rw [Sem.run_bind, size_run' h0]
    simp only [Result.andThen_ok]
    rw [fill_laid _ parts.toList z.cells out hf]
    rfl
  exact pure_eq hr w0 K
/-- '[]T{x}' of a struct -/
theorem bslice1 {P : Program} {t e : TypeId} {z : Value} {bytes s : Nat} {cs : List Value} {w : World} {K : Value → World → Prop} (ht : P.underlying t = some (.slice e)) (hE : ElemT P e z s bytes) (h0 : 0 < s) (h24 : s ≤ 16777216) (hl : cs.length = s)
    (hK : K (.slice (some ⟨w.heap.size, 0, none⟩) 1 1) (w.alloc (.cells cs.toArray e))) : runP P (Instr.buildSlice t 1 #[(0, .agg cs.toArray)]) w K := by
  obtain ⟨i, hi, hz, hs, hby⟩ := info_parts hE
  refine ⟨_, _, ?_, hK⟩
  have hsz : (Go.sizeOf e).run P w = .ok s w := by simp [Go.sizeOf, typeInfo, hi, hs]
  have hzr : (zeroValue e).run P w = .ok z w := by simp [zeroValue, typeInfo, hi, hz]
  unfold Instr.buildSlice
  rw [Sem.run_bind, run_un ht]
  simp only [Result.andThen_ok]
  rw [Sem.run_bind, hsz]
  simp only [Result.andThen_ok]
  rw [if_neg (by omega), if_neg (by omega), Sem.run_bind, hzr]
  simp only [Result.andThen_ok]
  rw [Sem.run_bind]
  simp only [Sem.run_pure, Result.andThen_ok]
  have hf : laid (fun i => some (i * s, s)) ((Array.range (1 * s)).map (z.cells[· % z.cells.size]!)).toList [(0, .agg cs.toArray)] = some cs := by
    have hc : (Value.agg cs.toArray).cells.toList = cs := rfl
    simp only [laid, Option.bind_some, hc, Nat.zero_mul, Nat.zero_add, hl, Array.length_toList, Array.size_map, Array.size_range, Nat.one_mul, Nat.le_refl, and_self, if_true]
    rw [splice_eq _ _ _ (by simp [hl])]
    simp [hl]
  have h2 := fill_laid _ [(0, .agg cs.toArray)] _ cs hf
  rw [h2]
  rfl
structure SOp where
  kind : Int
  t : Int
  d0 : Int
  d1 : Int
  b : List UInt8
  key : List UInt8
  v6 : Bool
  addr : List UInt8
  cfg : List Int
structure SOp.Fit (o : SOp) : Prop where
  key : o.key.length = 16
  addr : o.addr.length = 7
  cfg : o.cfg.length = 20
def SOp.cells (o : SOp) (sl : Value) : List Value :=
  .int .u8 o.kind :: .int .i64 o.t :: .int .u64 o.d0 :: .int .u64 o.d1 :: sl :: (o.key.map byteV ++ (.bool o.v6 :: (o.addr.map byteV ++ ints o.cfg)))
def opZ (k : Int) : SOp := ⟨k, 0, 0, 0, [], noBytes 16, false, noBytes 7, z20⟩
def opT (k x : Int) : SOp := ⟨k, x, 0, 0, [], noBytes 16, false, noBytes 7, z20⟩
def opD (k a b : Int) (l : List UInt8) : SOp := ⟨k, 0, a, b, l, noBytes 16, false, noBytes 7, z20⟩
def opK (k : Int) (l : List UInt8) : SOp := ⟨k, 0, 0, 0, [], l, false, noBytes 7, z20⟩
def opP (k : Int) (v : Bool) (l : List UInt8) : SOp := ⟨k, 0, 0, 0, [], noBytes 16, v, l, z20⟩
def opC (k : Int) (c : List Int) : SOp := ⟨k, 0, 0, 0, [], noBytes 16, false, noBytes 7, c⟩
theorem opZ_fit (k : Int) : (opZ k).Fit := ⟨rfl, rfl, rfl⟩
section
variable {o : SOp} (h : o.Fit) (sl : Value)
include h
theorem SOp.len : (o.cells sl).length = 49 := by
  simp [SOp.cells, h.key, h.addr, ints_len, h.cfg]
theorem SOp.setKey {l : List UInt8} (hl : l.length = 16) : splice (o.cells sl) 5 (l.map byteV) = ({ o with key := l } : SOp).cells sl := by
  rw [splice_eq _ _ _ (by rw [SOp.len h]; simp [hl])]
  simp [SOp.cells, h.key, hl, List.drop_append]
theorem SOp.setV6 (b : Bool) : (o.cells sl).set 21 (.bool b) = ({ o with v6 := b } : SOp).cells sl := by
  have e : o.key.map byteV ++ (Value.bool o.v6 :: (o.addr.map byteV ++ ints o.cfg)) = o.key.map byteV ++ (Value.bool o.v6 :: (o.addr.map byteV ++ ints o.cfg)) := rfl
  simp [SOp.cells, List.set_append, h.key]
theorem SOp.setAddr {l : List UInt8} (hl : l.length = 7) : splice (o.cells sl) 22 (l.map byteV) = ({ o with addr := l } : SOp).cells sl := by
  rw [splice_eq _ _ _ (by rw [SOp.len h]; simp [hl])]
  simp [SOp.cells, h.key, h.addr, hl, List.drop_append, List.take_append, List.take_of_length_le (show (o.key.map byteV).length ≤ 17 by simp [h.key]), List.drop_of_length_le (show (o.key.map byteV).length ≤ 24 by simp [h.key])]
theorem SOp.setCfg {l : List Int} (hl : l.length = 20) : splice (o.cells sl) 29 (ints l) = ({ o with cfg := l } : SOp).cells sl := by
  rw [splice_eq _ _ _ (by rw [SOp.len h]; simp [hl, ints_len])]
  simp [SOp.cells, h.key, h.addr, h.cfg, hl, List.drop_append, List.take_append, ints_len, List.take_of_length_le (show (o.key.map byteV).length ≤ 24 by simp [h.key]), List.drop_of_length_le (show (o.key.map byteV).length ≤ 44 by simp [h.key]), List.drop_of_length_le (show (o.addr.map byteV).length ≤ 27 by simp [h.addr]), List.drop_of_length_le (show (ints o.cfg).length ≤ 20 by simp [ints_len, h.cfg])]
end
theorem SOp.one (o : SOp) {sl : Value} (hs : sl.oneCell' = true) : ∀ u ∈ o.cells sl, u.oneCell' = true := by
  intro u hu
  simp only [SOp.cells, List.mem_cons, List.mem_append] at hu
  rcases hu with rfl | rfl | rfl | rfl | rfl | hu | rfl | hu | hu
  · rfl
  · rfl
  · rfl
  · rfl
  · exact hs
  · exact byteV_one _ u hu
  · rfl
  · exact byteV_one _ u hu
  · exact ints_one _ u hu
def padTo (n : Nat) (l : List UInt8) : List UInt8 := l ++ noBytes (n - l.length)
theorem padTo_len {n : Nat} {l : List UInt8} (h : l.length ≤ n) : (padTo n l).length = n := by simp [padTo, noBytes]; omega
theorem noB_drop (a b : Nat) : ((noBytes a).map byteV).drop b = (noBytes (a - b)).map byteV := by simp only [noBytes, ← List.map_drop, List.drop_replicate]
theorem noB_drop' (a b : Nat) : (noBytes a).drop b = noBytes (a - b) := by simp only [noBytes, List.drop_replicate]
theorem noB_len (n : Nat) : (noBytes n).length = n := by simp only [noBytes, List.length_replicate]
theorem noB_none (a : Nat) {b : Nat} (h : a ≤ b) : ((noBytes a).map byteV).drop b = [] := List.drop_of_length_le (by rw [List.length_map, noB_len]; exact h)
theorem noB_all (a : Nat) {b : Nat} (h : a ≤ b) : ((noBytes a).map byteV).take b = (noBytes a).map byteV := List.take_of_length_le (by rw [List.length_map, noB_len]; exact h)
theorem opK_put (k : Int) (sl : Value) {l : List UInt8} (h : l.length ≤ 16) : splice ((opZ k).cells sl) 5 (l.map byteV) = (opK k (padTo 16 l)).cells sl := by
  rw [splice_eq _ _ _ (by rw [SOp.len (opZ_fit k)]; simp; omega)]
  have e1 : l.length - 16 = 0 := by omega
  have e2 : 5 + l.length = l.length + 5 := by omega
  simp [SOp.cells, opZ, opK, padTo, List.drop_append, e1, e2, noB_drop, noB_len]
theorem opP_put (k : Int) (b : Bool) (sl : Value) {l : List UInt8} (h : l.length ≤ 7) : splice ((opP k b (noBytes 7)).cells sl) 22 (l.map byteV) = (opP k b (padTo 7 l)).cells sl := by
  rw [splice_eq _ _ _ (by rw [SOp.len (o := opP k b (noBytes 7)) ⟨rfl, rfl, rfl⟩]; simp; omega)]
  have e1 : l.length - 7 = 0 := by omega
  have e2 : 22 + l.length = l.length + 22 := by omega
  have e3 : l.length + 17 - 16 = l.length + 1 := by omega
  simp [SOp.cells, opP, padTo, List.drop_append, List.take_append, e1, e2, e3, noB_drop, noB_len, noB_none 16 (show 16 ≤ l.length + 17 by omega), noB_all 16 (show 16 ≤ 17 by omega)]
open Classical in
noncomputable def takeM (k : Int) (s : InM) : SOp × InM :=
  if k = 1 then (opT k (IntKind.i64.wrap (be (s.take 8).1)), (s.take 8).2)
  else if k = 2 then
    (opD k (be (s.take 8).1) (be ((s.take 8).2.take 8).1) ((((s.take 8).2.take 8).2.take 2).2.take (be (((s.take 8).2.take 8).2.take 2).1)).1,
      ((((s.take 8).2.take 8).2.take 2).2.take (be (((s.take 8).2.take 8).2.take 2).1)).2)
  else if k = 4 then (opK k (padTo 16 (s.take 16).1), (s.take 16).2)
  else if k = 5 then
    (opP k (decide (be (s.take 1).1 = 1)) (padTo 7 ((if 1 < be (s.take 1).1 then InM.mk (s.take 1).2.rest true else (s.take 1).2).take 7).1),
      ((if 1 < be (s.take 1).1 then InM.mk (s.take 1).2.rest true else (s.take 1).2).take 7).2)
  else if k = 7 then (opC k (decC (s.take 160).1).1, if (decC (s.take 160).1).2 = 0 then (s.take 160).2 else ⟨(s.take 160).2.rest, true⟩)
  else if k = 3 ∨ k = 6 ∨ k = 8 then (opZ k, s) else (opZ k, ⟨s.rest, true⟩)
theorem takeM_fit (k : Int) (s : InM) : (takeM k s).1.Fit := by
  unfold takeM
  split
  · exact ⟨rfl, rfl, rfl⟩
  split
  · exact ⟨rfl, rfl, rfl⟩
  split
  · exact ⟨padTo_len (by have := s.take_len 16; simpa using this), rfl, rfl⟩
  split
  · exact ⟨rfl, padTo_len (by have := (if 1 < be (s.take 1).1 then InM.mk (s.take 1).2.rest true else (s.take 1).2).take_len 7; simpa using this), rfl⟩
  split
  · exact ⟨rfl, rfl, decC_len _⟩
  split <;> exact ⟨rfl, rfl, rfl⟩
theorem takeM_kind (k : Int) (s : InM) : (takeM k s).1.kind = k := by
  unfold takeM
  repeat' split
  all_goals rfl
theorem takeM_rest (k : Int) (s : InM) : (takeM k s).2.rest.length ≤ s.rest.length := by
  unfold takeM
  split
  · exact s.take_rest 8
  split
  · exact Nat.le_trans (InM.take_rest _ _) (Nat.le_trans (InM.take_rest _ _) (Nat.le_trans (InM.take_rest _ _) (InM.take_rest _ _)))
  split
  · exact s.take_rest 16
  split
  · refine Nat.le_trans (InM.take_rest _ _) ?_
    split <;> exact s.take_rest 1
  split
  · simp only; split <;> exact s.take_rest 160
  split <;> exact Nat.le_refl _
theorem zerOp : zer Try.prog 159 = some (.agg ((opZ 0).cells (.slice none 0 0)).toArray) := by rw [zer159]; rfl
theorem op_build (k : Int) (w0 : World) (K : Value → Prop) : pureP Try.prog (Instr.build 159 #[(0, .int .u8 k)]) K = K (.agg ((opZ k).cells (.slice none 0 0)).toArray) :=
  build_of ((opZ k).cells (.slice none 0 0)) (by kernel_rfl) zerOp (by kernel_rfl) w0 K
theorem zerDraws : zer Try.prog 81 = some (.agg #[.int .u64 0, .int .u64 0]) := by rw [zer81]
theorem draws_build (a b : Int) (w0 : World) (K : Value → Prop) : pureP Try.prog (Instr.build 81 #[(0, .int .u64 a), (1, .int .u64 b)]) K = K (.agg #[.int .u64 a, .int .u64 b]) :=
  build_arrE (out := [.int .u64 a, .int .u64 b]) Try.underlying81 cells43 (by decide) zerDraws rfl w0 K
/-- an operation's bytes are its own -/
def OpO (w : World) (B : Nat) (o : SOp) (A : Option Addr) (c : Nat) : Prop := Own w B 5 1 A o.b.length c (o.b.map byteV)
def TakeR (w : World) (F : Nat → Prop) (q : Nat) (o : SOp) (s : InM) (v : Value) (w' : World) : Prop :=
  ∃ A c, v = .agg (o.cells (.slice A o.b.length c)).toArray ∧ OpO w' w.heap.size o A c ∧ InW w' F q s ∧ But q w w'
theorem own_apart {w : World} {B B' e e' s s' n n' c c' : Nat} {A A' : Option Addr} {xs ys : List Value} (h : Own w B e s A n c xs) (h' : Own w B' e' s' A' n' c' ys) (hne : e ≠ e') : ∀ x, A' = some x → ¬ atB A x.block := by
  rintro x rfl ⟨y, rfl, hy⟩
  rcases h.blk with ⟨h1, _⟩ | ⟨g, h1, _, _, cur, hb⟩
  · cases h1
  rcases h'.blk with ⟨h2, _⟩ | ⟨g', h2, _, _, cur', hb'⟩
  · cases h2
  cases h1
  cases h2
  simp only at hy
  subst hy
  unfold Blk at hb hb'
  rw [hb] at hb'
  simp only [Option.some.injEq, Obj.cells.injEq] at hb'
  exact hne hb'.2.1
end Go.Proofs.Ytloiglnejffmkaa
