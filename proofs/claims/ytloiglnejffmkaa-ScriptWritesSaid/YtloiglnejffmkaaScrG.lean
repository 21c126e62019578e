/-
  Layer 31: an operation is put.
-/
import Derived.Test.YtloiglnejffmkaaScrF
namespace Go.Proofs.Ytloiglnejffmkaa
open Go Go.RowKit Go.Proofs.RV
set_option linter.unusedSimpArgs false
set_option linter.unusedVariables false
set_option maxRecDepth 10000
set_option maxHeartbeats 4000000
/-- an operation's bytes, and whether it may be -/
def tailM (o : SOp) : List UInt8 :=
  if o.kind = 1 then numB (IntKind.u64.wrap o.t) 8
  else if o.kind = 2 then numB o.d0 8 ++ (numB o.d1 8 ++ (numB (IntKind.u16.wrap o.b.length) 2 ++ o.b))
  else if o.kind = 4 then o.key
  else if o.kind = 5 then (if o.v6 = true then 1 else 0) :: o.addr
  else if o.kind = 7 then (if rightM o.cfg then encC o.cfg else [])
  else []
def okM (o : SOp) : Prop :=
  if o.kind = 2 then o.b.length ≤ 65535
  else if o.kind = 7 then rightM o.cfg
  else o.kind = 1 ∨ o.kind = 3 ∨ o.kind = 4 ∨ o.kind = 5 ∨ o.kind = 6 ∨ o.kind = 8
instance (o : SOp) : Decidable (okM o) := by unfold okM; infer_instance
def putM (o : SOp) : List UInt8 := u8 o.kind :: tailM o
/-- what an operation's numbers may be -/
structure SOp.Num (o : SOp) : Prop where
  k0 : 0 ≤ o.kind
  k1 : o.kind < 256
  d0 : 0 ≤ o.d0
  d1 : 0 ≤ o.d1
  b : o.b.length ≤ 140737488351232
theorem mid_cut {α : Type} (a x b : List α) {i n : Nat} (hi : a.length = i) (hn : x.length = n) : ((a ++ (x ++ b)).drop i).take n = x := by
  subst hi hn
  rw [List.drop_left, List.take_left]
section
variable {o : SOp} (h : o.Fit) (sl : Value)
include h
theorem SOp.cKey : ((o.cells sl).drop 5).take 16 = o.key.map byteV :=
  mid_cut [.int .u8 o.kind, .int .i64 o.t, .int .u64 o.d0, .int .u64 o.d1, sl] (o.key.map byteV) _ rfl (by rw [List.length_map, h.key])
theorem SOp.cV6 : (o.cells sl)[21]? = some (.bool o.v6) := by
  simp only [SOp.cells, List.getElem?_cons_succ]
  rw [List.getElem?_append_right (by rw [List.length_map, h.key]; omega), List.length_map, h.key]
  rfl
theorem SOp.cAddr : ((o.cells sl).drop 22).take 7 = o.addr.map byteV := by
  have := mid_cut ([.int .u8 o.kind, .int .i64 o.t, .int .u64 o.d0, .int .u64 o.d1, sl] ++ o.key.map byteV ++ [.bool o.v6]) (o.addr.map byteV) (ints o.cfg) (i := 22) (n := 7) (by simp [h.key]) (by simp [h.addr])
  simpa [SOp.cells] using this
theorem SOp.cCfg : ((o.cells sl).drop 29).take 20 = ints o.cfg := by
  have := mid_cut ([.int .u8 o.kind, .int .i64 o.t, .int .u64 o.d0, .int .u64 o.d1, sl] ++ o.key.map byteV ++ [.bool o.v6] ++ o.addr.map byteV) (ints o.cfg) [] (i := 29) (n := 20) (by simp [h.key, h.addr]) (by simp [ints_len, h.cfg])
  simpa [SOp.cells] using this
end
theorem script_flag (w : World) (B q : Nat) (A : Option Addr) (c : Nat) (l : List UInt8) (b : Bool) (h : OutAt w B q A c l) (hl : l.length ≤ 2900000) (hB : B ≤ w.heap.size) :
    Ret Try.prog 112 #[.pointer (some ⟨q, 0, none⟩), .bool b] w fun v w' => v = .tuple #[] ∧ OutR w B q A (l ++ [if b = true then 1 else 0]) w' := by
  refine ret_of Try.func112 rfl (by kernel_rfl) (Nat.le_of_ble_eq_true (by kernel_rfl)) ?_
  cases b with
  | true =>
    simp (config := {maxSteps := 1000000}) only [↓zvN, zvU, ↓up_apply, ↓hv_apply, ↓upO_some, ↓upO_none, ↓ev_tmp, ↓ev_const, ↓ev_func, ↓ev_global, init, Nat.reduceEqDiff, Nat.reduceAdd, Nat.reduceMul, Nat.reduceSub, ↓reduceIte, Int.reduceEq, Int.reduceNe, Nat.reduceLeDiff, one, Value.cells, Int.reduceLE, Int.reduceLT, Int.reduceToNat, add_mk, reduceCtorEq, List.mem_range'_1, true_and, and_true, and_false, false_and, Nat.reduceLT, Nat.reduceLeDiff, tyF]
    refine call_ok Try.call26 (out_u8 w B q A c l 1 (by omega) (by omega) h hl hB) ?_
    rintro _ w1 ⟨rfl, h1⟩
    simp (config := {maxSteps := 1000000}) only [↓zvN, zvU, ↓up_apply, ↓hv_apply, ↓upO_some, ↓upO_none, ↓ev_tmp, ↓ev_const, ↓ev_func, ↓ev_global, init, Nat.reduceEqDiff, Nat.reduceAdd, Nat.reduceMul, Nat.reduceSub, ↓reduceIte, Int.reduceEq, Int.reduceNe, Nat.reduceLeDiff, one, Value.cells, Int.reduceLE, Int.reduceLT, Int.reduceToNat, add_mk, reduceCtorEq, List.mem_range'_1, true_and, and_true, and_false, false_and, Nat.reduceLT, Nat.reduceLeDiff, tyF]
    exact h1
  | false =>
    simp (config := {maxSteps := 1000000}) only [↓zvN, zvU, ↓up_apply, ↓hv_apply, ↓upO_some, ↓upO_none, ↓ev_tmp, ↓ev_const, ↓ev_func, ↓ev_global, init, Nat.reduceEqDiff, Nat.reduceAdd, Nat.reduceMul, Nat.reduceSub, ↓reduceIte, Int.reduceEq, Int.reduceNe, Nat.reduceLeDiff, one, Value.cells, Int.reduceLE, Int.reduceLT, Int.reduceToNat, add_mk, reduceCtorEq, List.mem_range'_1, true_and, and_true, and_false, false_and, Nat.reduceLT, Nat.reduceLeDiff, tyF]
    refine call_ok Try.call26 (out_u8 w B q A c l 0 (by omega) (by omega) h hl hB) ?_
    rintro _ w1 ⟨rfl, h1⟩
    simp (config := {maxSteps := 1000000}) only [↓zvN, zvU, ↓up_apply, ↓hv_apply, ↓upO_some, ↓upO_none, ↓ev_tmp, ↓ev_const, ↓ev_func, ↓ev_global, init, Nat.reduceEqDiff, Nat.reduceAdd, Nat.reduceMul, Nat.reduceSub, ↓reduceIte, Int.reduceEq, Int.reduceNe, Nat.reduceLeDiff, one, Value.cells, Int.reduceLE, Int.reduceLT, Int.reduceToNat, add_mk, reduceCtorEq, List.mem_range'_1, true_and, and_true, and_false, false_and, Nat.reduceLT, Nat.reduceLeDiff, tyF]
    exact h1
theorem OutR.of_more {w w1 w2 : World} {B q : Nat} {A : Option Addr} {l : List UInt8} (hm : More w w1) (h : OutR w1 B q A l w2) : OutR w B q A l w2 := by
  obtain ⟨A', c', h1, h2, h3⟩ := h
  refine ⟨A', c', h1, (Mod.of_more (S := outS q A) hm).next h2 (fun k _ hk => hk), fun k hk => ?_⟩
  rcases h3 k hk with h | h
  · exact .inl h
  · exact .inr (Nat.le_trans hm.size h)
theorem OutR.next {w w1 w2 : World} {B q c1 : Nat} {A A1 : Option Addr} {l l1 : List UInt8} (hm : Mod (outS q A) w w1) (hat : ∀ k, outS q A1 k → outS q A k ∨ w.heap.size ≤ k) (h : OutR w1 B q A1 l w2) : OutR w B q A l w2 := by
  obtain ⟨A', c', h1, h2, h3⟩ := h
  refine ⟨A', c', h1, hm.next h2 (fun k hk hh => ?_), fun k hk => ?_⟩
  · rcases hat k hh with h | h
    · exact h
    · omega
  · rcases h3 k hk with h | h
    · exact hat k h
    · exact .inr (Nat.le_trans hm.size h)
def PutR (w : World) (B q : Nat) (A : Option Addr) (l : List UInt8) (o : SOp) (v : Value) (w' : World) : Prop := v = .bool (decide (okM o)) ∧ OutR w B q A (l ++ putM o) w'
theorem script_put (w0 w : World) (hw : More w0 w) (B q : Nat) (A : Option Addr) (c : Nat) (l : List UInt8) (h : OutAt w B q A c l) (hB0 : w0.heap.size ≤ B) (hB : B ≤ w.heap.size) (hl : l.length ≤ 2000000) (o : SOp) (hf : o.Fit) (hn : o.Num) (Ab : Option Addr) (cb : Nat) (hb : Bs w0 Ab o.b) :
    Ret Try.prog 87 #[.pointer (some ⟨q, 0, none⟩), .agg (o.cells (.slice Ab o.b.length cb)).toArray] w (PutR w B q A l o) := by
  refine ret_of Try.func87 rfl (by kernel_rfl) (Nat.le_of_ble_eq_true (by kernel_rfl)) ?_
  have hm1 := more_alloc w (.cells (o.cells (.slice Ab o.b.length cb)).toArray 159)
  have pw1 := Blk.new w 159 (o.cells (.slice Ab o.b.length cb)).toArray
  have s1 := size_alloc w (.cells (o.cells (.slice Ab o.b.length cb)).toArray 159)
  simp (config := {maxSteps := 1000000}) only [↓zvN, zvU, ↓up_apply, ↓hv_apply, ↓upO_some, ↓upO_none, ↓ev_tmp, ↓ev_const, ↓ev_func, ↓ev_global, init, Nat.reduceEqDiff, Nat.reduceAdd, Nat.reduceMul, Nat.reduceSub, ↓reduceIte, Int.reduceEq, Int.reduceNe, Nat.reduceLeDiff, one, Value.cells, Int.reduceLE, Int.reduceLT, Int.reduceToNat, add_mk, reduceCtorEq, List.mem_range'_1, true_and, and_true, and_false, false_and, Nat.reduceLT, Nat.reduceLeDiff, tyF]
  generalize w.alloc (.cells (o.cells (.slice Ab o.b.length cb)).toArray 159) = w1 at hm1 pw1 s1 ⊢
  rw [List.toList_toArray] at pw1
  have bw1 : More w0 w1 := hw.trans hm1
  have gw1 := h.more hm1
  have hnp : ∀ k, outS q A k → k < w.heap.size := fun k hk => (h.ge hk).2
  generalize hpp : w.heap.size = p at *
  have nw1 : ¬ outS q A p := fun hk => by have := hnp p hk; omega
  suffices hs : ∀ v w', (v = .bool (decide (okM o)) ∧ OutR w1 B q A (l ++ putM o) w') → PutR w B q A l o v w' by
    have c0w1 : World.cell? w1 ⟨p, 0, none⟩ = some (.int .u8 o.kind) := by rw [Blk.cell pw1]; rfl
    simp (config := {maxSteps := 1000000}) only [↓zvN, zvU, ↓up_apply, ↓hv_apply, ↓upO_some, ↓upO_none, ↓ev_tmp, ↓ev_const, ↓ev_func, ↓ev_global, init, Nat.reduceEqDiff, Nat.reduceAdd, Nat.reduceMul, Nat.reduceSub, ↓reduceIte, Int.reduceEq, Int.reduceNe, Nat.reduceLeDiff, one, Value.cells, Int.reduceLE, Int.reduceLT, Int.reduceToNat, add_mk, reduceCtorEq, List.mem_range'_1, true_and, and_true, and_false, false_and, Nat.reduceLT, Nat.reduceLeDiff, tyF, c0w1]
    refine call_ok Try.call26 (out_u8 w1 B q A c l o.kind hn.k0 hn.k1 gw1 (by omega) (by omega)) ?_
    rintro _ w2 ⟨rfl, A2, c2, gw2, mw2, tw2⟩
    have pw2 := Mod.blk mw2 pw1 nw1
    have zw2 := Mod.size mw2
    have nw2 : ¬ outS q A2 p := fun h => (tw2 p h).elim nw1 (fun h => by omega)
    have bw2 : More w0 w2 := out_more gw1 mw2 bw1 hB0
    have c0w2 : World.cell? w2 ⟨p, 0, none⟩ = some (.int .u8 o.kind) := by rw [Blk.cell pw2]; rfl
    replace hs : ∀ v w', (v = .bool (decide (okM o)) ∧ OutR w2 B q A2 (l ++ [u8 o.kind] ++ tailM o) w') → PutR w B q A l o v w' := fun v w' h => hs v w' ⟨h.1, OutR.next (c1 := c2) (l1 := l) mw2 tw2 (by simpa [putM] using h.2)⟩
    have l2 : (l ++ [u8 o.kind]).length = l.length + 1 := by simp
    generalize l ++ [u8 o.kind] = lk at *
    have c1w2 : World.cell? w2 ⟨p, 1, none⟩ = some (.int .i64 o.t) := by rw [Blk.cell pw2]; rfl
    have c2w2 : World.cell? w2 ⟨p, 2, none⟩ = some (.int .u64 o.d0) := by rw [Blk.cell pw2]; rfl
    have c3w2 : World.cell? w2 ⟨p, 3, none⟩ = some (.int .u64 o.d1) := by rw [Blk.cell pw2]; rfl
    have c4w2 : World.cell? w2 ⟨p, 4, none⟩ = some (.slice Ab o.b.length cb) := by rw [Blk.cell pw2]; rfl
    have hk0 := hn.k0
    have hk1 := hn.k1
    by_cases k1 : o.kind = 1
    · rw [k1] at c0w2
      simp (config := {maxSteps := 1000000}) only [↓zvN, zvU, ↓up_apply, ↓hv_apply, ↓upO_some, ↓upO_none, ↓ev_tmp, ↓ev_const, ↓ev_func, ↓ev_global, init, Nat.reduceEqDiff, Nat.reduceAdd, Nat.reduceMul, Nat.reduceSub, ↓reduceIte, Int.reduceEq, Int.reduceNe, Nat.reduceLeDiff, one, Value.cells, Int.reduceLE, Int.reduceLT, Int.reduceToNat, add_mk, reduceCtorEq, List.mem_range'_1, true_and, and_true, and_false, false_and, Nat.reduceLT, Nat.reduceLeDiff, tyF, c0w2, c1w2]
      refine call_ok Try.call29 (out_u64 w2 B q A2 c2 lk _ gw2 (by omega) (wrapu_nonneg _) (by omega)) ?_
      rintro _ w3 ⟨rfl, A3, c3, gw3, mw3, tw3⟩
      have pw3 := Mod.blk mw3 pw2 nw2
      have zw3 := Mod.size mw3
      have nw3 : ¬ outS q A3 p := fun h => (tw3 p h).elim nw2 (fun h => by omega)
      have bw3 : More w0 w3 := out_more gw2 mw3 bw2 hB0
      simp (config := {maxSteps := 1000000}) only [↓zvN, zvU, ↓up_apply, ↓hv_apply, ↓upO_some, ↓upO_none, ↓ev_tmp, ↓ev_const, ↓ev_func, ↓ev_global, init, Nat.reduceEqDiff, Nat.reduceAdd, Nat.reduceMul, Nat.reduceSub, ↓reduceIte, Int.reduceEq, Int.reduceNe, Nat.reduceLeDiff, one, Value.cells, Int.reduceLE, Int.reduceLT, Int.reduceToNat, add_mk, reduceCtorEq, List.mem_range'_1, true_and, and_true, and_false, false_and, Nat.reduceLT, Nat.reduceLeDiff, tyF]
      exact hs _ _ ⟨by rw [decide_eq_true]; unfold okM; simp [k1], A3, c3, by simpa [tailM, k1] using gw3, mw3, tw3⟩
    by_cases k2 : o.kind = 2
    · rw [k2] at c0w2
      simp (config := {maxSteps := 1000000}) only [↓zvN, zvU, ↓up_apply, ↓hv_apply, ↓upO_some, ↓upO_none, ↓ev_tmp, ↓ev_const, ↓ev_func, ↓ev_global, init, Nat.reduceEqDiff, Nat.reduceAdd, Nat.reduceMul, Nat.reduceSub, ↓reduceIte, Int.reduceEq, Int.reduceNe, Nat.reduceLeDiff, one, Value.cells, Int.reduceLE, Int.reduceLT, Int.reduceToNat, add_mk, reduceCtorEq, List.mem_range'_1, true_and, and_true, and_false, false_and, Nat.reduceLT, Nat.reduceLeDiff, tyF, c0w2, c2w2]
      refine call_ok Try.call29 (out_u64 w2 B q A2 c2 lk _ gw2 (by omega) hn.d0 (by omega)) ?_
      rintro _ w3 ⟨rfl, A3, c3, gw3, mw3, tw3⟩
      have pw3 := Mod.blk mw3 pw2 nw2
      have zw3 := Mod.size mw3
      have nw3 : ¬ outS q A3 p := fun h => (tw3 p h).elim nw2 (fun h => by omega)
      have bw3 : More w0 w3 := out_more gw2 mw3 bw2 hB0
      replace hs : ∀ v w', (v = .bool (decide (okM o)) ∧ OutR w3 B q A3 (lk ++ numB o.d0 8 ++ (numB o.d1 8 ++ (numB (IntKind.u16.wrap o.b.length) 2 ++ o.b))) w') → PutR w B q A l o v w' := fun v w' h => hs v w' ⟨h.1, OutR.next (c1 := c3) (l1 := lk) mw3 tw3 (by simpa [tailM, k2] using h.2)⟩
      have l3 : (lk ++ numB o.d0 8).length = lk.length + 8 := by simp [numB_len]
      generalize lk ++ numB o.d0 8 = l3' at *
      have c1w3 : World.cell? w3 ⟨p, 1, none⟩ = some (.int .i64 o.t) := by rw [Blk.cell pw3]; rfl
      have c2w3 : World.cell? w3 ⟨p, 2, none⟩ = some (.int .u64 o.d0) := by rw [Blk.cell pw3]; rfl
      have c3w3 : World.cell? w3 ⟨p, 3, none⟩ = some (.int .u64 o.d1) := by rw [Blk.cell pw3]; rfl
      have c4w3 : World.cell? w3 ⟨p, 4, none⟩ = some (.slice Ab o.b.length cb) := by rw [Blk.cell pw3]; rfl
      simp (config := {maxSteps := 1000000}) only [↓zvN, zvU, ↓up_apply, ↓hv_apply, ↓upO_some, ↓upO_none, ↓ev_tmp, ↓ev_const, ↓ev_func, ↓ev_global, init, Nat.reduceEqDiff, Nat.reduceAdd, Nat.reduceMul, Nat.reduceSub, ↓reduceIte, Int.reduceEq, Int.reduceNe, Nat.reduceLeDiff, one, Value.cells, Int.reduceLE, Int.reduceLT, Int.reduceToNat, add_mk, reduceCtorEq, List.mem_range'_1, true_and, and_true, and_false, false_and, Nat.reduceLT, Nat.reduceLeDiff, tyF, c3w3]
      refine call_ok Try.call29 (out_u64 w3 B q A3 c3 l3' _ gw3 (by omega) hn.d1 (by omega)) ?_
      rintro _ w4 ⟨rfl, A4, c4, gw4, mw4, tw4⟩
      have pw4 := Mod.blk mw4 pw3 nw3
      have zw4 := Mod.size mw4
      have nw4 : ¬ outS q A4 p := fun h => (tw4 p h).elim nw3 (fun h => by omega)
      have bw4 : More w0 w4 := out_more gw3 mw4 bw3 hB0
      replace hs : ∀ v w', (v = .bool (decide (okM o)) ∧ OutR w4 B q A4 (l3' ++ numB o.d1 8 ++ (numB (IntKind.u16.wrap o.b.length) 2 ++ o.b)) w') → PutR w B q A l o v w' := fun v w' h => hs v w' ⟨h.1, OutR.next (c1 := c4) (l1 := l3') mw4 tw4 (by simpa using h.2)⟩
      have l4 : (l3' ++ numB o.d1 8).length = l3'.length + 8 := by simp [numB_len]
      generalize l3' ++ numB o.d1 8 = l4' at *
      have c1w4 : World.cell? w4 ⟨p, 1, none⟩ = some (.int .i64 o.t) := by rw [Blk.cell pw4]; rfl
      have c2w4 : World.cell? w4 ⟨p, 2, none⟩ = some (.int .u64 o.d0) := by rw [Blk.cell pw4]; rfl
      have c3w4 : World.cell? w4 ⟨p, 3, none⟩ = some (.int .u64 o.d1) := by rw [Blk.cell pw4]; rfl
      have c4w4 : World.cell? w4 ⟨p, 4, none⟩ = some (.slice Ab o.b.length cb) := by rw [Blk.cell pw4]; rfl
      simp (config := {maxSteps := 1000000}) only [↓zvN, zvU, ↓up_apply, ↓hv_apply, ↓upO_some, ↓upO_none, ↓ev_tmp, ↓ev_const, ↓ev_func, ↓ev_global, init, Nat.reduceEqDiff, Nat.reduceAdd, Nat.reduceMul, Nat.reduceSub, ↓reduceIte, Int.reduceEq, Int.reduceNe, Nat.reduceLeDiff, one, Value.cells, Int.reduceLE, Int.reduceLT, Int.reduceToNat, add_mk, reduceCtorEq, List.mem_range'_1, true_and, and_true, and_false, false_and, Nat.reduceLT, Nat.reduceLeDiff, tyF, c4w4]
      have r16 : 0 ≤ IntKind.u16.wrap (o.b.length : Int) ∧ IntKind.u16.wrap (o.b.length : Int) < 65536 := by
        simp only [IntKind.wrap, IntKind.bits, IntKind.signed]
        simp
        omega
      refine call_ok Try.call27 (out_u16 w4 B q A4 c4 l4' _ gw4 (by omega) r16 (by omega)) ?_
      rintro _ w5 ⟨rfl, A5, c5, gw5, mw5, tw5⟩
      have pw5 := Mod.blk mw5 pw4 nw4
      have zw5 := Mod.size mw5
      have nw5 : ¬ outS q A5 p := fun h => (tw5 p h).elim nw4 (fun h => by omega)
      have bw5 : More w0 w5 := out_more gw4 mw5 bw4 hB0
      replace hs : ∀ v w', (v = .bool (decide (okM o)) ∧ OutR w5 B q A5 (l4' ++ numB (IntKind.u16.wrap o.b.length) 2 ++ o.b) w') → PutR w B q A l o v w' := fun v w' h => hs v w' ⟨h.1, OutR.next (c1 := c5) (l1 := l4') mw5 tw5 (by simpa using h.2)⟩
      have l5 : (l4' ++ numB (IntKind.u16.wrap o.b.length) 2).length = l4'.length + 2 := by simp [numB_len]
      generalize l4' ++ numB (IntKind.u16.wrap o.b.length) 2 = l5' at *
      have c1w5 : World.cell? w5 ⟨p, 1, none⟩ = some (.int .i64 o.t) := by rw [Blk.cell pw5]; rfl
      have c2w5 : World.cell? w5 ⟨p, 2, none⟩ = some (.int .u64 o.d0) := by rw [Blk.cell pw5]; rfl
      have c3w5 : World.cell? w5 ⟨p, 3, none⟩ = some (.int .u64 o.d1) := by rw [Blk.cell pw5]; rfl
      have c4w5 : World.cell? w5 ⟨p, 4, none⟩ = some (.slice Ab o.b.length cb) := by rw [Blk.cell pw5]; rfl
      simp (config := {maxSteps := 1000000}) only [↓zvN, zvU, ↓up_apply, ↓hv_apply, ↓upO_some, ↓upO_none, ↓ev_tmp, ↓ev_const, ↓ev_func, ↓ev_global, init, Nat.reduceEqDiff, Nat.reduceAdd, Nat.reduceMul, Nat.reduceSub, ↓reduceIte, Int.reduceEq, Int.reduceNe, Nat.reduceLeDiff, one, Value.cells, Int.reduceLE, Int.reduceLT, Int.reduceToNat, add_mk, reduceCtorEq, List.mem_range'_1, true_and, and_true, and_false, false_and, Nat.reduceLT, Nat.reduceLeDiff, tyF, c4w5]
      refine call_ok Try.call17 (out_raw w5 B q A5 c5 l5' Ab o.b cb gw5 (hb.more bw5) (by omega) hn.b (by omega)) ?_
      rintro _ w6 ⟨rfl, A6, c6, gw6, mw6, tw6⟩
      have pw6 := Mod.blk mw6 pw5 nw5
      have zw6 := Mod.size mw6
      have nw6 : ¬ outS q A6 p := fun h => (tw6 p h).elim nw5 (fun h => by omega)
      have bw6 : More w0 w6 := out_more gw5 mw6 bw5 hB0
      have c1w6 : World.cell? w6 ⟨p, 1, none⟩ = some (.int .i64 o.t) := by rw [Blk.cell pw6]; rfl
      have c2w6 : World.cell? w6 ⟨p, 2, none⟩ = some (.int .u64 o.d0) := by rw [Blk.cell pw6]; rfl
      have c3w6 : World.cell? w6 ⟨p, 3, none⟩ = some (.int .u64 o.d1) := by rw [Blk.cell pw6]; rfl
      have c4w6 : World.cell? w6 ⟨p, 4, none⟩ = some (.slice Ab o.b.length cb) := by rw [Blk.cell pw6]; rfl
      simp (config := {maxSteps := 1000000}) only [↓zvN, zvU, ↓up_apply, ↓hv_apply, ↓upO_some, ↓upO_none, ↓ev_tmp, ↓ev_const, ↓ev_func, ↓ev_global, init, Nat.reduceEqDiff, Nat.reduceAdd, Nat.reduceMul, Nat.reduceSub, ↓reduceIte, Int.reduceEq, Int.reduceNe, Nat.reduceLeDiff, one, Value.cells, Int.reduceLE, Int.reduceLT, Int.reduceToNat, add_mk, reduceCtorEq, List.mem_range'_1, true_and, and_true, and_false, false_and, Nat.reduceLT, Nat.reduceLeDiff, tyF, c4w6]
      refine hs _ _ ⟨?_, A6, c6, gw6, mw6, tw6⟩
      unfold okM
      simp only [k2, if_true]
      congr 2
      exact propext ⟨fun h => by omega, fun h => by omega⟩
    by_cases k4 : o.kind = 4
    · rw [k4] at c0w2
      simp (config := {maxSteps := 1000000}) only [↓zvN, zvU, ↓up_apply, ↓hv_apply, ↓upO_some, ↓upO_none, ↓ev_tmp, ↓ev_const, ↓ev_func, ↓ev_global, init, Nat.reduceEqDiff, Nat.reduceAdd, Nat.reduceMul, Nat.reduceSub, ↓reduceIte, Int.reduceEq, Int.reduceNe, Nat.reduceLeDiff, one, Value.cells, Int.reduceLE, Int.reduceLT, Int.reduceToNat, add_mk, reduceCtorEq, List.mem_range'_1, true_and, and_true, and_false, false_and, Nat.reduceLT, Nat.reduceLeDiff, tyF, c0w2]
      have hA : Bs w2 (some ⟨p, 5, none⟩) o.key := blk_bs pw2 (by rw [hf.key]; exact SOp.cKey hf _)
      have := out_raw w2 B q A2 c2 lk _ _ 16 gw2 hA (by omega) (by rw [hf.key]; omega) (by omega)
      rw [hf.key] at this
      refine call_ok Try.call17 this ?_
      rintro _ w3 ⟨rfl, A3, c3, gw3, mw3, tw3⟩
      have pw3 := Mod.blk mw3 pw2 nw2
      have zw3 := Mod.size mw3
      have nw3 : ¬ outS q A3 p := fun h => (tw3 p h).elim nw2 (fun h => by omega)
      have bw3 : More w0 w3 := out_more gw2 mw3 bw2 hB0
      simp (config := {maxSteps := 1000000}) only [↓zvN, zvU, ↓up_apply, ↓hv_apply, ↓upO_some, ↓upO_none, ↓ev_tmp, ↓ev_const, ↓ev_func, ↓ev_global, init, Nat.reduceEqDiff, Nat.reduceAdd, Nat.reduceMul, Nat.reduceSub, ↓reduceIte, Int.reduceEq, Int.reduceNe, Nat.reduceLeDiff, one, Value.cells, Int.reduceLE, Int.reduceLT, Int.reduceToNat, add_mk, reduceCtorEq, List.mem_range'_1, true_and, and_true, and_false, false_and, Nat.reduceLT, Nat.reduceLeDiff, tyF]
      exact hs _ _ ⟨by rw [decide_eq_true]; unfold okM; simp [k4], A3, c3, by simpa [tailM, k4] using gw3, mw3, tw3⟩
    by_cases k5 : o.kind = 5
    · rw [k5] at c0w2
      have v6w2 : World.cell? w2 ⟨p, 21, none⟩ = some (.bool o.v6) := by rw [Blk.cell pw2]; exact SOp.cV6 hf _
      simp (config := {maxSteps := 1000000}) only [↓zvN, zvU, ↓up_apply, ↓hv_apply, ↓upO_some, ↓upO_none, ↓ev_tmp, ↓ev_const, ↓ev_func, ↓ev_global, init, Nat.reduceEqDiff, Nat.reduceAdd, Nat.reduceMul, Nat.reduceSub, ↓reduceIte, Int.reduceEq, Int.reduceNe, Nat.reduceLeDiff, one, Value.cells, Int.reduceLE, Int.reduceLT, Int.reduceToNat, add_mk, reduceCtorEq, List.mem_range'_1, true_and, and_true, and_false, false_and, Nat.reduceLT, Nat.reduceLeDiff, tyF, c0w2, v6w2]
      refine call_ok Try.call112 (script_flag w2 B q A2 c2 lk o.v6 gw2 (by omega) (by omega)) ?_
      rintro _ w3 ⟨rfl, A3, c3, gw3, mw3, tw3⟩
      have pw3 := Mod.blk mw3 pw2 nw2
      have zw3 := Mod.size mw3
      have nw3 : ¬ outS q A3 p := fun h => (tw3 p h).elim nw2 (fun h => by omega)
      have bw3 : More w0 w3 := out_more gw2 mw3 bw2 hB0
      replace hs : ∀ v w', (v = .bool (decide (okM o)) ∧ OutR w3 B q A3 (lk ++ [if o.v6 = true then 1 else 0] ++ o.addr) w') → PutR w B q A l o v w' := fun v w' h => hs v w' ⟨h.1, OutR.next (c1 := c3) (l1 := lk) mw3 tw3 (by simpa [tailM, k5] using h.2)⟩
      have l3 : (lk ++ [if o.v6 = true then (1 : UInt8) else 0]).length = lk.length + 1 := by simp
      generalize lk ++ [if o.v6 = true then (1 : UInt8) else 0] = l3' at *
      simp (config := {maxSteps := 1000000}) only [↓zvN, zvU, ↓up_apply, ↓hv_apply, ↓upO_some, ↓upO_none, ↓ev_tmp, ↓ev_const, ↓ev_func, ↓ev_global, init, Nat.reduceEqDiff, Nat.reduceAdd, Nat.reduceMul, Nat.reduceSub, ↓reduceIte, Int.reduceEq, Int.reduceNe, Nat.reduceLeDiff, one, Value.cells, Int.reduceLE, Int.reduceLT, Int.reduceToNat, add_mk, reduceCtorEq, List.mem_range'_1, true_and, and_true, and_false, false_and, Nat.reduceLT, Nat.reduceLeDiff, tyF]
      have hA : Bs w3 (some ⟨p, 22, none⟩) o.addr := blk_bs pw3 (by rw [hf.addr]; exact SOp.cAddr hf _)
      have := out_raw w3 B q A3 c3 l3' _ _ 7 gw3 hA (by omega) (by rw [hf.addr]; omega) (by omega)
      rw [hf.addr] at this
      refine call_ok Try.call17 this ?_
      rintro _ w4 ⟨rfl, A4, c4, gw4, mw4, tw4⟩
      have pw4 := Mod.blk mw4 pw3 nw3
      have zw4 := Mod.size mw4
      have nw4 : ¬ outS q A4 p := fun h => (tw4 p h).elim nw3 (fun h => by omega)
      have bw4 : More w0 w4 := out_more gw3 mw4 bw3 hB0
      simp (config := {maxSteps := 1000000}) only [↓zvN, zvU, ↓up_apply, ↓hv_apply, ↓upO_some, ↓upO_none, ↓ev_tmp, ↓ev_const, ↓ev_func, ↓ev_global, init, Nat.reduceEqDiff, Nat.reduceAdd, Nat.reduceMul, Nat.reduceSub, ↓reduceIte, Int.reduceEq, Int.reduceNe, Nat.reduceLeDiff, one, Value.cells, Int.reduceLE, Int.reduceLT, Int.reduceToNat, add_mk, reduceCtorEq, List.mem_range'_1, true_and, and_true, and_false, false_and, Nat.reduceLT, Nat.reduceLeDiff, tyF]
      exact hs _ _ ⟨by rw [decide_eq_true]; unfold okM; simp [k5], A4, c4, gw4, mw4, tw4⟩
    by_cases k7 : o.kind = 7
    · rw [k7] at c0w2
      have rw2 := Blk.row_eq pw2 29 20 (by rw [SOp.len hf]; omega)
      rw [SOp.cCfg hf] at rw2
      simp (config := {maxSteps := 1000000}) only [↓zvN, zvU, ↓up_apply, ↓hv_apply, ↓upO_some, ↓upO_none, ↓ev_tmp, ↓ev_const, ↓ev_func, ↓ev_global, init, Nat.reduceEqDiff, Nat.reduceAdd, Nat.reduceMul, Nat.reduceSub, ↓reduceIte, Int.reduceEq, Int.reduceNe, Nat.reduceLeDiff, one, Value.cells, Int.reduceLE, Int.reduceLT, Int.reduceToNat, add_mk, reduceCtorEq, List.mem_range'_1, true_and, and_true, and_false, false_and, Nat.reduceLT, Nat.reduceLeDiff, tyF, c0w2, rw2]
      refine call_ok Try.call113 (config_encode w2 o.cfg hf.cfg) ?_
      rintro v3 w3 ⟨hm3, hy, hno⟩
      have gw3 := gw2.more hm3
      have bw3 := bw2.trans hm3
      have z3 := hm3.size
      by_cases hr : rightM o.cfg
      · obtain ⟨A3, c3, rfl, hA3⟩ := hy hr
        simp (config := {maxSteps := 1000000}) only [↓zvN, zvU, ↓up_apply, ↓hv_apply, ↓upO_some, ↓upO_none, ↓ev_tmp, ↓ev_const, ↓ev_func, ↓ev_global, init, Nat.reduceEqDiff, Nat.reduceAdd, Nat.reduceMul, Nat.reduceSub, ↓reduceIte, Int.reduceEq, Int.reduceNe, Nat.reduceLeDiff, one, Value.cells, Int.reduceLE, Int.reduceLT, Int.reduceToNat, add_mk, reduceCtorEq, List.mem_range'_1, true_and, and_true, and_false, false_and, Nat.reduceLT, Nat.reduceLeDiff, tyF]
        have hl3 := encC_len o.cfg
        rw [hf.cfg] at hl3
        have pw3 := pw2.more hm3
        have nw3 := nw2
        have := out_raw w3 B q A2 c2 lk _ (encC o.cfg) c3 gw3 hA3.cs (by omega) (by omega) (by omega)
        rw [hl3] at this
        refine call_ok Try.call17 this ?_
        rintro _ w4 ⟨rfl, A4, c4, gw4, mw4, tw4⟩
        have pw4 := Mod.blk mw4 pw3 nw3
        have zw4 := Mod.size mw4
        have nw4 : ¬ outS q A4 p := fun h => (tw4 p h).elim nw3 (fun h => by omega)
        have bw4 : More w0 w4 := out_more gw3 mw4 bw3 hB0
        simp (config := {maxSteps := 1000000}) only [↓zvN, zvU, ↓up_apply, ↓hv_apply, ↓upO_some, ↓upO_none, ↓ev_tmp, ↓ev_const, ↓ev_func, ↓ev_global, init, Nat.reduceEqDiff, Nat.reduceAdd, Nat.reduceMul, Nat.reduceSub, ↓reduceIte, Int.reduceEq, Int.reduceNe, Nat.reduceLeDiff, one, Value.cells, Int.reduceLE, Int.reduceLT, Int.reduceToNat, add_mk, reduceCtorEq, List.mem_range'_1, true_and, and_true, and_false, false_and, Nat.reduceLT, Nat.reduceLeDiff, tyF]
        exact hs _ _ ⟨by rw [decide_eq_true]; unfold okM; simp [k7, hr], OutR.of_more hm3 ⟨A4, c4, by simpa [tailM, k7, hr] using gw4, mw4, tw4⟩⟩
      · obtain rfl := hno hr
        simp (config := {maxSteps := 1000000}) only [↓zvN, zvU, ↓up_apply, ↓hv_apply, ↓upO_some, ↓upO_none, ↓ev_tmp, ↓ev_const, ↓ev_func, ↓ev_global, init, Nat.reduceEqDiff, Nat.reduceAdd, Nat.reduceMul, Nat.reduceSub, ↓reduceIte, Int.reduceEq, Int.reduceNe, Nat.reduceLeDiff, one, Value.cells, Int.reduceLE, Int.reduceLT, Int.reduceToNat, add_mk, reduceCtorEq, List.mem_range'_1, true_and, and_true, and_false, false_and, Nat.reduceLT, Nat.reduceLeDiff, tyF]
        have pw3 := pw2.more hm3
        have nw3 := nw2
        refine call_ok Try.call17 (out_raw w3 B q A2 c2 lk none [] 0 gw3 (Cs.nil _ _) (by omega) (by simp) (by omega)) ?_
        rintro _ w4 ⟨rfl, A4, c4, gw4, mw4, tw4⟩
        have pw4 := Mod.blk mw4 pw3 nw3
        have zw4 := Mod.size mw4
        have nw4 : ¬ outS q A4 p := fun h => (tw4 p h).elim nw3 (fun h => by omega)
        have bw4 : More w0 w4 := out_more gw3 mw4 bw3 hB0
        simp (config := {maxSteps := 1000000}) only [↓zvN, zvU, ↓up_apply, ↓hv_apply, ↓upO_some, ↓upO_none, ↓ev_tmp, ↓ev_const, ↓ev_func, ↓ev_global, init, Nat.reduceEqDiff, Nat.reduceAdd, Nat.reduceMul, Nat.reduceSub, ↓reduceIte, Int.reduceEq, Int.reduceNe, Nat.reduceLeDiff, one, Value.cells, Int.reduceLE, Int.reduceLT, Int.reduceToNat, add_mk, reduceCtorEq, List.mem_range'_1, true_and, and_true, and_false, false_and, Nat.reduceLT, Nat.reduceLeDiff, tyF]
        exact hs _ _ ⟨by rw [decide_eq_false]; unfold okM; simp [k7, hr], OutR.of_more hm3 ⟨A4, c4, by simpa [tailM, k7, hr] using gw4, mw4, tw4⟩⟩
    have last : OutR w2 B q A2 (lk ++ tailM o) w2 := ⟨A2, c2, by simpa [tailM, k1, k2, k4, k5, k7] using gw2, Mod.refl _ _, fun k hk => .inl hk⟩
    by_cases k3 : o.kind = 3
    · rw [k3] at c0w2
      simp (config := {maxSteps := 1000000}) only [↓zvN, zvU, ↓up_apply, ↓hv_apply, ↓upO_some, ↓upO_none, ↓ev_tmp, ↓ev_const, ↓ev_func, ↓ev_global, init, Nat.reduceEqDiff, Nat.reduceAdd, Nat.reduceMul, Nat.reduceSub, ↓reduceIte, Int.reduceEq, Int.reduceNe, Nat.reduceLeDiff, one, Value.cells, Int.reduceLE, Int.reduceLT, Int.reduceToNat, add_mk, reduceCtorEq, List.mem_range'_1, true_and, and_true, and_false, false_and, Nat.reduceLT, Nat.reduceLeDiff, tyF, c0w2]
      exact hs _ _ ⟨by rw [decide_eq_true]; unfold okM; simp [k3], last⟩
    by_cases k6 : o.kind = 6
    · rw [k6] at c0w2
      simp (config := {maxSteps := 1000000}) only [↓zvN, zvU, ↓up_apply, ↓hv_apply, ↓upO_some, ↓upO_none, ↓ev_tmp, ↓ev_const, ↓ev_func, ↓ev_global, init, Nat.reduceEqDiff, Nat.reduceAdd, Nat.reduceMul, Nat.reduceSub, ↓reduceIte, Int.reduceEq, Int.reduceNe, Nat.reduceLeDiff, one, Value.cells, Int.reduceLE, Int.reduceLT, Int.reduceToNat, add_mk, reduceCtorEq, List.mem_range'_1, true_and, and_true, and_false, false_and, Nat.reduceLT, Nat.reduceLeDiff, tyF, c0w2]
      exact hs _ _ ⟨by rw [decide_eq_true]; unfold okM; simp [k6], last⟩
    by_cases k8 : o.kind = 8
    · rw [k8] at c0w2
      simp (config := {maxSteps := 1000000}) only [↓zvN, zvU, ↓up_apply, ↓hv_apply, ↓upO_some, ↓upO_none, ↓ev_tmp, ↓ev_const, ↓ev_func, ↓ev_global, init, Nat.reduceEqDiff, Nat.reduceAdd, Nat.reduceMul, Nat.reduceSub, ↓reduceIte, Int.reduceEq, Int.reduceNe, Nat.reduceLeDiff, one, Value.cells, Int.reduceLE, Int.reduceLT, Int.reduceToNat, add_mk, reduceCtorEq, List.mem_range'_1, true_and, and_true, and_false, false_and, Nat.reduceLT, Nat.reduceLeDiff, tyF, c0w2]
      exact hs _ _ ⟨by rw [decide_eq_true]; unfold okM; simp [k8], last⟩
    simp (config := {maxSteps := 1000000}) only [↓zvN, zvU, ↓up_apply, ↓hv_apply, ↓upO_some, ↓upO_none, ↓ev_tmp, ↓ev_const, ↓ev_func, ↓ev_global, init, Nat.reduceEqDiff, Nat.reduceAdd, Nat.reduceMul, Nat.reduceSub, ↓reduceIte, Int.reduceEq, Int.reduceNe, Nat.reduceLeDiff, one, Value.cells, Int.reduceLE, Int.reduceLT, Int.reduceToNat, add_mk, reduceCtorEq, List.mem_range'_1, true_and, and_true, and_false, false_and, Nat.reduceLT, Nat.reduceLeDiff, tyF, c0w2, k1, k2, k3, k4, k5, k6, k7, k8]
    exact hs _ _ ⟨by rw [decide_eq_false]; unfold okM; simp [k1, k2, k3, k4, k5, k6, k7, k8], last⟩
  rintro v w' ⟨rfl, hR⟩
  exact ⟨rfl, OutR.of_more hm1 hR⟩
end Go.Proofs.Ytloiglnejffmkaa
