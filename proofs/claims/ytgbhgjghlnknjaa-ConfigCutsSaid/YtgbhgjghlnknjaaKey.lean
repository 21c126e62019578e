/-
  Layer 12: the key of a flow, here and in the reference.
-/
import Derived.Test.YtgbhgjghlnknjaaFlow
import Derived.Test.YtgbhgjghlnknjaaCurRef
namespace Go.Proofs.Ytgbhgjghlnknjaa
open Go Go.RowKit Go.Proofs.RV
set_option linter.unusedSimpArgs false
set_option linter.unusedVariables false
set_option maxRecDepth 10000
set_option maxHeartbeats 4000000

def adrN (v6 : Bool) : Nat := if v6 = true then 16 else 4
def keyM (f : FlowM) : List UInt8 := [u8 (if f.v6 = true then 6 else 4)] ++ [u8 f.proto] ++ f.src.take (adrN f.v6) ++ f.dst.take (adrN f.v6) ++ numB f.sp 2 ++ numB f.dp 2
theorem out_u8 (w : World) (B q : Nat) (A : Option Addr) (c : Nat) (l : List UInt8) (x : Int) (h0 : 0 ≤ x) (h1 : x < 256) (h : OutAt w B q A c l) (hl : l.length ≤ 900000) (hB : B ≤ w.heap.size) :
    Ret Try.prog 51 #[.pointer (some ⟨q, 0, none⟩), .int .u8 x] w fun v w' => v = .tuple #[] ∧ OutR w B q A (l ++ [u8 x]) w' := by
  refine ret_of Try.func51 rfl (by kernel_rfl) (Nat.le_of_ble_eq_true (by kernel_rfl)) ?_
  simp (config := {maxSteps := 1000000}) only [↓zvD, zvU, ↓up_apply, ↓hv_apply, ↓upO_some, ↓upO_none, ↓ev_tmp, ↓ev_const, ↓ev_func, ↓ev_global, init, Nat.reduceEqDiff, Nat.reduceAdd, Nat.reduceMul, Nat.reduceSub, ↓reduceIte, Int.reduceEq, Int.reduceNe, Nat.reduceLeDiff, one, Value.cells, Int.reduceLE, Int.reduceLT, Int.reduceToNat, add_mk, reduceCtorEq, tyF]
  refine bslice (z := .int .u8 0) (cells := #[.int .u8 x]) Try.underlying22 byteE (by omega) (by have := bcells_list (z := .int .u8 0) [.int .u8 x] (by intro v hv; simp at hv; subst hv; rfl); exact this) ?_
  have hm1 := more_alloc w (.cells #[.int .u8 x] 5)
  have hb1 := Blk.new w 5 #[.int .u8 x]
  generalize w.alloc (.cells #[.int .u8 x] 5) = w1 at hm1 hb1 ⊢
  simp (config := {maxSteps := 1000000}) only [↓zvD, zvU, ↓up_apply, ↓hv_apply, ↓upO_some, ↓upO_none, ↓ev_tmp, ↓ev_const, ↓ev_func, ↓ev_global, init, Nat.reduceEqDiff, Nat.reduceAdd, Nat.reduceMul, Nat.reduceSub, ↓reduceIte, Int.reduceEq, Int.reduceNe, Nat.reduceLeDiff, one, Value.cells, Int.reduceLE, Int.reduceLT, Int.reduceToNat, add_mk, reduceCtorEq, tyF]
  have hs : Bs w1 (some ⟨w.heap.size, 0, none⟩) [u8 x] := by
    have := hb1.cs
    unfold Bs
    rw [List.map_singleton, byteV_u8 h0 h1]
    exact this
  refine call_ok Try.call52 (out_raw w1 B q A c l (some ⟨w.heap.size, 0, none⟩) [u8 x] 1 (h.more hm1) hs (by omega) (by simp) (Nat.le_trans hB hm1.size)) ?_
  rintro _ w2 ⟨rfl, A', c', g1, g2, g3⟩
  simp (config := {maxSteps := 1000000}) only [↓zvD, zvU, ↓up_apply, ↓hv_apply, ↓upO_some, ↓upO_none, ↓ev_tmp, ↓ev_const, ↓ev_func, ↓ev_global, init, Nat.reduceEqDiff, Nat.reduceAdd, Nat.reduceMul, Nat.reduceSub, ↓reduceIte, Int.reduceEq, Int.reduceNe, Nat.reduceLeDiff, one, Value.cells, Int.reduceLE, Int.reduceLT, Int.reduceToNat, add_mk, reduceCtorEq, tyF]
  exact ⟨A', c', g1, (Mod.of_more hm1).trans g2, fun k hk => (g3 k hk).imp id fun h => Nat.le_trans hm1.size h⟩
theorem out_keep {w w' : World} {B q c p e : Nat} {A : Option Addr} {l : List UInt8} {cs : List Value} (h : OutAt w B q A c l) (hm : Mod (outS q A) w w') (hb : Blk w p e cs) (hp : p < B) : Blk w' p e cs :=
  hm.blk hb fun hk => by have := (h.ge hk).1; omega
theorem out_more {w0 w w' : World} {B q c : Nat} {A : Option Addr} {l : List UInt8} (h : OutAt w B q A c l) (hm : Mod (outS q A) w w') (h0 : More w0 w) (hB : w0.heap.size ≤ B) : More w0 w' :=
  Mod.more h0 hm fun k hk hs => by have := (h.ge hs).1; omega
def KeyR (f : FlowM) (w : World) (v : Value) (w' : World) : Prop := ∃ A c, v = .slice A (keyM f).length c ∧ Own w' w.heap.size 5 1 A (keyM f).length c ((keyM f).map byteV) ∧ More w w'
theorem flow_src {w : World} {p : Nat} {f : FlowM} (h : Blk w p 27 f.cells) (hf : f.Fit) : Bs w (some ⟨p, 2, none⟩) f.src := by
  refine blk_bs h ?_
  rw [hf.src, FlowM.cSrc hf]
theorem flow_dst {w : World} {p : Nat} {f : FlowM} (h : Blk w p 27 f.cells) (hf : f.Fit) : Bs w (some ⟨p, 18, none⟩) f.dst := by
  refine blk_bs h ?_
  rw [hf.dst, FlowM.cDst hf]
theorem frame_key (w : World) (f : FlowM) (hf : f.Fit) :
    Ret Try.prog 20 #[.agg f.cells.toArray] w (KeyR f w) := by
  refine ret_of Try.func20 rfl (by kernel_rfl) (Nat.le_of_ble_eq_true (by kernel_rfl)) ?_
  have hm1 := more_alloc w (.cells f.cells.toArray 27)
  have hb1 := Blk.new w 27 f.cells.toArray
  have s1 := size_alloc w (.cells f.cells.toArray 27)
  simp (config := {maxSteps := 1000000}) only [↓zvD, zvU, ↓up_apply, ↓hv_apply, ↓upO_some, ↓upO_none, ↓ev_tmp, ↓ev_const, ↓ev_func, ↓ev_global, init, Nat.reduceEqDiff, Nat.reduceAdd, Nat.reduceMul, Nat.reduceSub, ↓reduceIte, Int.reduceEq, Int.reduceNe, Nat.reduceLeDiff, one, Value.cells, Int.reduceLE, Int.reduceLT, Int.reduceToNat, add_mk, reduceCtorEq, tyF]
  generalize w.alloc (.cells f.cells.toArray 27) = w1 at hm1 hb1 s1 ⊢
  simp only [List.toList_toArray] at hb1
  have hm2 := more_alloc w1 (.cells #[.slice none 0 0] 105)
  have ho2 := out_made w1
  have s2 := size_alloc w1 (.cells #[.slice none 0 0] 105)
  simp (config := {maxSteps := 1000000}) only [↓zvD, zvU, ↓up_apply, ↓hv_apply, ↓upO_some, ↓upO_none, ↓ev_tmp, ↓ev_const, ↓ev_func, ↓ev_global, init, Nat.reduceEqDiff, Nat.reduceAdd, Nat.reduceMul, Nat.reduceSub, ↓reduceIte, Int.reduceEq, Int.reduceNe, Nat.reduceLeDiff, one, Value.cells, Int.reduceLE, Int.reduceLT, Int.reduceToNat, add_mk, reduceCtorEq, tyF, hb1.cell, FlowM.c0, zerOut]
  refine ⟨fun hv => ?_, fun hv => ?_⟩
  · simp (config := {maxSteps := 1000000}) only [↓zvD, zvU, ↓up_apply, ↓hv_apply, ↓upO_some, ↓upO_none, ↓ev_tmp, ↓ev_const, ↓ev_func, ↓ev_global, init, Nat.reduceEqDiff, Nat.reduceAdd, Nat.reduceMul, Nat.reduceSub, ↓reduceIte, Int.reduceEq, Int.reduceNe, Nat.reduceLeDiff, one, Value.cells, Int.reduceLE, Int.reduceLT, Int.reduceToNat, add_mk, reduceCtorEq, tyF, zerOut]
    generalize w1.alloc (.cells #[.slice none 0 0] 105) = w2 at hm2 ho2 s2 ⊢
    have hb2 := hb1.more hm2
    replace hm2 := hm1.trans hm2
    have hp : w.heap.size < w1.heap.size := by omega
    have hq : w.heap.size ≤ w1.heap.size := by omega
    have hB2 : w1.heap.size ≤ w2.heap.size := by omega
    clear hb1 hm1 s1 s2
    generalize w1.heap.size = q at hp hq hB2 ho2 ⊢
    have e16 : (f.src.take 16).length = 16 := by simp [hf.src]
    have e17 : (f.dst.take 16).length = 16 := by simp [hf.dst]
    refine call_ok Try.call51 (out_u8 w2 q q none 0 [] 6 (by omega) (by omega) ho2 (by simp) hB2) ?_
    rintro _ w3 ⟨rfl, A3, c3, ho3, hmn, _⟩
    have hb3 := out_keep ho2 hmn hb2 hp
    have hm3 := out_more ho2 hmn hm2 hq
    have hB3 : q ≤ w3.heap.size := Nat.le_of_lt ho3.1.lt
    clear hmn
    try simp (config := {maxSteps := 1000000}) only [↓zvD, zvU, ↓up_apply, ↓hv_apply, ↓upO_some, ↓upO_none, ↓ev_tmp, ↓ev_const, ↓ev_func, ↓ev_global, init, Nat.reduceEqDiff, Nat.reduceAdd, Nat.reduceMul, Nat.reduceSub, ↓reduceIte, Int.reduceEq, Int.reduceNe, Nat.reduceLeDiff, one, Value.cells, Int.reduceLE, Int.reduceLT, Int.reduceToNat, add_mk, reduceCtorEq, tyF, hb3.cell, FlowM.c0, FlowM.c1, FlowM.cS hf, FlowM.cD hf]
    refine call_ok Try.call51 (out_u8 w3 q q A3 c3 _ _ hf.p0 hf.p1 ho3 (by simp) hB3) ?_
    rintro _ w4 ⟨rfl, A4, c4, ho4, hmn, _⟩
    have hb4 := out_keep ho3 hmn hb3 hp
    have hm4 := out_more ho3 hmn hm3 hq
    have hB4 : q ≤ w4.heap.size := Nat.le_of_lt ho4.1.lt
    clear hmn
    try simp (config := {maxSteps := 1000000}) only [↓zvD, zvU, ↓up_apply, ↓hv_apply, ↓upO_some, ↓upO_none, ↓ev_tmp, ↓ev_const, ↓ev_func, ↓ev_global, init, Nat.reduceEqDiff, Nat.reduceAdd, Nat.reduceMul, Nat.reduceSub, ↓reduceIte, Int.reduceEq, Int.reduceNe, Nat.reduceLeDiff, one, Value.cells, Int.reduceLE, Int.reduceLT, Int.reduceToNat, add_mk, reduceCtorEq, tyF, hb4.cell, FlowM.c0, FlowM.c1, FlowM.cS hf, FlowM.cD hf]
    have hs4 := Cs.takeB (flow_src hb4 hf) 16
    refine call_ok Try.call52 (by have := out_raw w4 q q A4 c4 _ _ _ 16 ho4 hs4 (by simp) (by omega) hB4; rw [e16] at this; exact this) ?_
    rintro _ w5 ⟨rfl, A5, c5, ho5, hmn, _⟩
    have hb5 := out_keep ho4 hmn hb4 hp
    have hm5 := out_more ho4 hmn hm4 hq
    have hB5 : q ≤ w5.heap.size := Nat.le_of_lt ho5.1.lt
    clear hmn
    try simp (config := {maxSteps := 1000000}) only [↓zvD, zvU, ↓up_apply, ↓hv_apply, ↓upO_some, ↓upO_none, ↓ev_tmp, ↓ev_const, ↓ev_func, ↓ev_global, init, Nat.reduceEqDiff, Nat.reduceAdd, Nat.reduceMul, Nat.reduceSub, ↓reduceIte, Int.reduceEq, Int.reduceNe, Nat.reduceLeDiff, one, Value.cells, Int.reduceLE, Int.reduceLT, Int.reduceToNat, add_mk, reduceCtorEq, tyF, hb5.cell, FlowM.c0, FlowM.c1, FlowM.cS hf, FlowM.cD hf]
    have hs5 := Cs.takeB (flow_dst hb5 hf) 16
    refine call_ok Try.call52 (by have := out_raw w5 q q A5 c5 _ _ _ 16 ho5 hs5 (by simp; omega) (by omega) hB5; rw [e17] at this; exact this) ?_
    rintro _ w6 ⟨rfl, A6, c6, ho6, hmn, _⟩
    have hb6 := out_keep ho5 hmn hb5 hp
    have hm6 := out_more ho5 hmn hm5 hq
    have hB6 : q ≤ w6.heap.size := Nat.le_of_lt ho6.1.lt
    clear hmn
    try simp (config := {maxSteps := 1000000}) only [↓zvD, zvU, ↓up_apply, ↓hv_apply, ↓upO_some, ↓upO_none, ↓ev_tmp, ↓ev_const, ↓ev_func, ↓ev_global, init, Nat.reduceEqDiff, Nat.reduceAdd, Nat.reduceMul, Nat.reduceSub, ↓reduceIte, Int.reduceEq, Int.reduceNe, Nat.reduceLeDiff, one, Value.cells, Int.reduceLE, Int.reduceLT, Int.reduceToNat, add_mk, reduceCtorEq, tyF, hb6.cell, FlowM.c0, FlowM.c1, FlowM.cS hf, FlowM.cD hf]
    refine call_ok Try.call53 (out_u16 w6 q q A6 c6 _ _ ho6 (by simp; omega) ⟨hf.s0, hf.s1⟩ hB6) ?_
    rintro _ w7 ⟨rfl, A7, c7, ho7, hmn, _⟩
    have hb7 := out_keep ho6 hmn hb6 hp
    have hm7 := out_more ho6 hmn hm6 hq
    have hB7 : q ≤ w7.heap.size := Nat.le_of_lt ho7.1.lt
    clear hmn
    try simp (config := {maxSteps := 1000000}) only [↓zvD, zvU, ↓up_apply, ↓hv_apply, ↓upO_some, ↓upO_none, ↓ev_tmp, ↓ev_const, ↓ev_func, ↓ev_global, init, Nat.reduceEqDiff, Nat.reduceAdd, Nat.reduceMul, Nat.reduceSub, ↓reduceIte, Int.reduceEq, Int.reduceNe, Nat.reduceLeDiff, one, Value.cells, Int.reduceLE, Int.reduceLT, Int.reduceToNat, add_mk, reduceCtorEq, tyF, hb7.cell, FlowM.c0, FlowM.c1, FlowM.cS hf, FlowM.cD hf]
    refine call_ok Try.call53 (out_u16 w7 q q A7 c7 _ _ ho7 (by simp [numB_len]; omega) ⟨hf.d0, hf.d1⟩ hB7) ?_
    rintro _ w8 ⟨rfl, A8, c8, ho8, hmn, _⟩
    have hb8 := out_keep ho7 hmn hb7 hp
    have hm8 := out_more ho7 hmn hm7 hq
    have hB8 : q ≤ w8.heap.size := Nat.le_of_lt ho8.1.lt
    clear hmn
    try simp (config := {maxSteps := 1000000}) only [↓zvD, zvU, ↓up_apply, ↓hv_apply, ↓upO_some, ↓upO_none, ↓ev_tmp, ↓ev_const, ↓ev_func, ↓ev_global, init, Nat.reduceEqDiff, Nat.reduceAdd, Nat.reduceMul, Nat.reduceSub, ↓reduceIte, Int.reduceEq, Int.reduceNe, Nat.reduceLeDiff, one, Value.cells, Int.reduceLE, Int.reduceLT, Int.reduceToNat, add_mk, reduceCtorEq, tyF, hb8.cell, FlowM.c0, FlowM.c1, FlowM.cS hf, FlowM.cD hf]
    have hk : [] ++ [u8 6] ++ [u8 f.proto] ++ f.src.take 16 ++ f.dst.take 16 ++ numB f.sp 2 ++ numB f.dp 2 = keyM f := by simp only [keyM, adrN, hv, if_true, if_false, Bool.false_eq_true, List.nil_append]
    rw [hk] at ho8
    refine call_ok Try.call54 (out_bytes w8 q q A8 c8 _ ho8 (by rw [← hk]; simp [numB_len]; omega)) ?_
    rintro _ w9 ⟨A9, c9, rfl, ho9, hm9⟩
    simp (config := {maxSteps := 1000000}) only [↓zvD, zvU, ↓up_apply, ↓hv_apply, ↓upO_some, ↓upO_none, ↓ev_tmp, ↓ev_const, ↓ev_func, ↓ev_global, init, Nat.reduceEqDiff, Nat.reduceAdd, Nat.reduceMul, Nat.reduceSub, ↓reduceIte, Int.reduceEq, Int.reduceNe, Nat.reduceLeDiff, one, Value.cells, Int.reduceLE, Int.reduceLT, Int.reduceToNat, add_mk, reduceCtorEq, tyF]
    exact ⟨A9, c9, rfl, ho9.mono hm8.size, hm8.trans hm9⟩
  · simp (config := {maxSteps := 1000000}) only [↓zvD, zvU, ↓up_apply, ↓hv_apply, ↓upO_some, ↓upO_none, ↓ev_tmp, ↓ev_const, ↓ev_func, ↓ev_global, init, Nat.reduceEqDiff, Nat.reduceAdd, Nat.reduceMul, Nat.reduceSub, ↓reduceIte, Int.reduceEq, Int.reduceNe, Nat.reduceLeDiff, one, Value.cells, Int.reduceLE, Int.reduceLT, Int.reduceToNat, add_mk, reduceCtorEq, tyF, zerOut]
    generalize w1.alloc (.cells #[.slice none 0 0] 105) = w2 at hm2 ho2 s2 ⊢
    have hb2 := hb1.more hm2
    replace hm2 := hm1.trans hm2
    have hp : w.heap.size < w1.heap.size := by omega
    have hq : w.heap.size ≤ w1.heap.size := by omega
    have hB2 : w1.heap.size ≤ w2.heap.size := by omega
    clear hb1 hm1 s1 s2
    generalize w1.heap.size = q at hp hq hB2 ho2 ⊢
    have e16 : (f.src.take 4).length = 4 := by simp [hf.src]
    have e17 : (f.dst.take 4).length = 4 := by simp [hf.dst]
    refine call_ok Try.call51 (out_u8 w2 q q none 0 [] 4 (by omega) (by omega) ho2 (by simp) hB2) ?_
    rintro _ w3 ⟨rfl, A3, c3, ho3, hmn, _⟩
    have hb3 := out_keep ho2 hmn hb2 hp
    have hm3 := out_more ho2 hmn hm2 hq
    have hB3 : q ≤ w3.heap.size := Nat.le_of_lt ho3.1.lt
    clear hmn
    try simp (config := {maxSteps := 1000000}) only [↓zvD, zvU, ↓up_apply, ↓hv_apply, ↓upO_some, ↓upO_none, ↓ev_tmp, ↓ev_const, ↓ev_func, ↓ev_global, init, Nat.reduceEqDiff, Nat.reduceAdd, Nat.reduceMul, Nat.reduceSub, ↓reduceIte, Int.reduceEq, Int.reduceNe, Nat.reduceLeDiff, one, Value.cells, Int.reduceLE, Int.reduceLT, Int.reduceToNat, add_mk, reduceCtorEq, tyF, hb3.cell, FlowM.c0, FlowM.c1, FlowM.cS hf, FlowM.cD hf]
    refine call_ok Try.call51 (out_u8 w3 q q A3 c3 _ _ hf.p0 hf.p1 ho3 (by simp) hB3) ?_
    rintro _ w4 ⟨rfl, A4, c4, ho4, hmn, _⟩
    have hb4 := out_keep ho3 hmn hb3 hp
    have hm4 := out_more ho3 hmn hm3 hq
    have hB4 : q ≤ w4.heap.size := Nat.le_of_lt ho4.1.lt
    clear hmn
    try simp (config := {maxSteps := 1000000}) only [↓zvD, zvU, ↓up_apply, ↓hv_apply, ↓upO_some, ↓upO_none, ↓ev_tmp, ↓ev_const, ↓ev_func, ↓ev_global, init, Nat.reduceEqDiff, Nat.reduceAdd, Nat.reduceMul, Nat.reduceSub, ↓reduceIte, Int.reduceEq, Int.reduceNe, Nat.reduceLeDiff, one, Value.cells, Int.reduceLE, Int.reduceLT, Int.reduceToNat, add_mk, reduceCtorEq, tyF, hb4.cell, FlowM.c0, FlowM.c1, FlowM.cS hf, FlowM.cD hf]
    have hs4 := Cs.takeB (flow_src hb4 hf) 4
    refine call_ok Try.call52 (by have := out_raw w4 q q A4 c4 _ _ _ 16 ho4 hs4 (by simp) (by omega) hB4; rw [e16] at this; exact this) ?_
    rintro _ w5 ⟨rfl, A5, c5, ho5, hmn, _⟩
    have hb5 := out_keep ho4 hmn hb4 hp
    have hm5 := out_more ho4 hmn hm4 hq
    have hB5 : q ≤ w5.heap.size := Nat.le_of_lt ho5.1.lt
    clear hmn
    try simp (config := {maxSteps := 1000000}) only [↓zvD, zvU, ↓up_apply, ↓hv_apply, ↓upO_some, ↓upO_none, ↓ev_tmp, ↓ev_const, ↓ev_func, ↓ev_global, init, Nat.reduceEqDiff, Nat.reduceAdd, Nat.reduceMul, Nat.reduceSub, ↓reduceIte, Int.reduceEq, Int.reduceNe, Nat.reduceLeDiff, one, Value.cells, Int.reduceLE, Int.reduceLT, Int.reduceToNat, add_mk, reduceCtorEq, tyF, hb5.cell, FlowM.c0, FlowM.c1, FlowM.cS hf, FlowM.cD hf]
    have hs5 := Cs.takeB (flow_dst hb5 hf) 4
    refine call_ok Try.call52 (by have := out_raw w5 q q A5 c5 _ _ _ 16 ho5 hs5 (by simp; omega) (by omega) hB5; rw [e17] at this; exact this) ?_
    rintro _ w6 ⟨rfl, A6, c6, ho6, hmn, _⟩
    have hb6 := out_keep ho5 hmn hb5 hp
    have hm6 := out_more ho5 hmn hm5 hq
    have hB6 : q ≤ w6.heap.size := Nat.le_of_lt ho6.1.lt
    clear hmn
    try simp (config := {maxSteps := 1000000}) only [↓zvD, zvU, ↓up_apply, ↓hv_apply, ↓upO_some, ↓upO_none, ↓ev_tmp, ↓ev_const, ↓ev_func, ↓ev_global, init, Nat.reduceEqDiff, Nat.reduceAdd, Nat.reduceMul, Nat.reduceSub, ↓reduceIte, Int.reduceEq, Int.reduceNe, Nat.reduceLeDiff, one, Value.cells, Int.reduceLE, Int.reduceLT, Int.reduceToNat, add_mk, reduceCtorEq, tyF, hb6.cell, FlowM.c0, FlowM.c1, FlowM.cS hf, FlowM.cD hf]
    refine call_ok Try.call53 (out_u16 w6 q q A6 c6 _ _ ho6 (by simp; omega) ⟨hf.s0, hf.s1⟩ hB6) ?_
    rintro _ w7 ⟨rfl, A7, c7, ho7, hmn, _⟩
    have hb7 := out_keep ho6 hmn hb6 hp
    have hm7 := out_more ho6 hmn hm6 hq
    have hB7 : q ≤ w7.heap.size := Nat.le_of_lt ho7.1.lt
    clear hmn
    try simp (config := {maxSteps := 1000000}) only [↓zvD, zvU, ↓up_apply, ↓hv_apply, ↓upO_some, ↓upO_none, ↓ev_tmp, ↓ev_const, ↓ev_func, ↓ev_global, init, Nat.reduceEqDiff, Nat.reduceAdd, Nat.reduceMul, Nat.reduceSub, ↓reduceIte, Int.reduceEq, Int.reduceNe, Nat.reduceLeDiff, one, Value.cells, Int.reduceLE, Int.reduceLT, Int.reduceToNat, add_mk, reduceCtorEq, tyF, hb7.cell, FlowM.c0, FlowM.c1, FlowM.cS hf, FlowM.cD hf]
    refine call_ok Try.call53 (out_u16 w7 q q A7 c7 _ _ ho7 (by simp [numB_len]; omega) ⟨hf.d0, hf.d1⟩ hB7) ?_
    rintro _ w8 ⟨rfl, A8, c8, ho8, hmn, _⟩
    have hb8 := out_keep ho7 hmn hb7 hp
    have hm8 := out_more ho7 hmn hm7 hq
    have hB8 : q ≤ w8.heap.size := Nat.le_of_lt ho8.1.lt
    clear hmn
    try simp (config := {maxSteps := 1000000}) only [↓zvD, zvU, ↓up_apply, ↓hv_apply, ↓upO_some, ↓upO_none, ↓ev_tmp, ↓ev_const, ↓ev_func, ↓ev_global, init, Nat.reduceEqDiff, Nat.reduceAdd, Nat.reduceMul, Nat.reduceSub, ↓reduceIte, Int.reduceEq, Int.reduceNe, Nat.reduceLeDiff, one, Value.cells, Int.reduceLE, Int.reduceLT, Int.reduceToNat, add_mk, reduceCtorEq, tyF, hb8.cell, FlowM.c0, FlowM.c1, FlowM.cS hf, FlowM.cD hf]
    have hk : [] ++ [u8 4] ++ [u8 f.proto] ++ f.src.take 4 ++ f.dst.take 4 ++ numB f.sp 2 ++ numB f.dp 2 = keyM f := by simp only [keyM, adrN, hv, if_true, if_false, Bool.false_eq_true, List.nil_append]
    rw [hk] at ho8
    refine call_ok Try.call54 (out_bytes w8 q q A8 c8 _ ho8 (by rw [← hk]; simp [numB_len]; omega)) ?_
    rintro _ w9 ⟨A9, c9, rfl, ho9, hm9⟩
    simp (config := {maxSteps := 1000000}) only [↓zvD, zvU, ↓up_apply, ↓hv_apply, ↓upO_some, ↓upO_none, ↓ev_tmp, ↓ev_const, ↓ev_func, ↓ev_global, init, Nat.reduceEqDiff, Nat.reduceAdd, Nat.reduceMul, Nat.reduceSub, ↓reduceIte, Int.reduceEq, Int.reduceNe, Nat.reduceLeDiff, one, Value.cells, Int.reduceLE, Int.reduceLT, Int.reduceToNat, add_mk, reduceCtorEq, tyF]
    exact ⟨A9, c9, rfl, ho9.mono hm8.size, hm8.trans hm9⟩
def RefKJ (f : FlowM) (w : World) (q n : Nat) (pre src : List UInt8) (v5 v15 : Value) (w' : World) : Prop :=
  ∃ (k : Nat) (A : Option Addr) (c : Nat), v5 = .slice A (pre.length + k) c ∧ v15 = .int .i64 k ∧ k ≤ n ∧ Own w' q 5 1 A (pre.length + k) c ((pre ++ src.take k).map byteV) ∧ Blk w' w.heap.size 27 f.cells ∧ More w w'
theorem bt_take_succ {x : List UInt8} {k : Nat} (h : k < x.length) : x.take (k + 1) = x.take k ++ [u8 (bt x k)] := by
  rw [List.take_succ_eq_append_getElem h]
  congr 2
  have h1 : bt x k = (x[k].toNat : Int) := by simp [bt, h]
  rw [h1]
  simp [u8]
theorem u8_byte (x : List UInt8) (k : Nat) : byteV (u8 (bt x k)) = .int .u8 (bt x k) := byteV_u8 (bt_nonneg x k) (bt_lt x k)
theorem ref_key (w : World) (f : FlowM) (hf : f.Fit) :
    Ret Try.prog 21 #[.agg f.cells.toArray] w (KeyR f w) := by
  refine ret_of Try.func21 rfl (by kernel_rfl) (Nat.le_of_ble_eq_true (by kernel_rfl)) ?_
  have hm1 := more_alloc w (.cells f.cells.toArray 27)
  have hb1 := Blk.new w 27 f.cells.toArray
  have s1 := size_alloc w (.cells f.cells.toArray 27)
  simp (config := {maxSteps := 1000000}) only [↓zvD, zvU, ↓up_apply, ↓hv_apply, ↓upO_some, ↓upO_none, ↓ev_tmp, ↓ev_const, ↓ev_func, ↓ev_global, init, Nat.reduceEqDiff, Nat.reduceAdd, Nat.reduceMul, Nat.reduceSub, ↓reduceIte, Int.reduceEq, Int.reduceNe, Nat.reduceLeDiff, one, Value.cells, Int.reduceLE, Int.reduceLT, Int.reduceToNat, add_mk, reduceCtorEq, tyF]
  generalize w.alloc (.cells f.cells.toArray 27) = w1 at hm1 hb1 s1 ⊢
  simp only [List.toList_toArray] at hb1
  simp (config := {maxSteps := 1000000}) only [↓zvD, zvU, ↓up_apply, ↓hv_apply, ↓upO_some, ↓upO_none, ↓ev_tmp, ↓ev_const, ↓ev_func, ↓ev_global, init, Nat.reduceEqDiff, Nat.reduceAdd, Nat.reduceMul, Nat.reduceSub, ↓reduceIte, Int.reduceEq, Int.reduceNe, Nat.reduceLeDiff, one, Value.cells, Int.reduceLE, Int.reduceLT, Int.reduceToNat, add_mk, reduceCtorEq, tyF, hb1.cell, FlowM.c0]
  refine ⟨fun hv => ?_, fun hv => ?_⟩
  · simp (config := {maxSteps := 1000000}) only [↓zvD, zvU, ↓up_apply, ↓hv_apply, ↓upO_some, ↓upO_none, ↓ev_tmp, ↓ev_const, ↓ev_func, ↓ev_global, init, Nat.reduceEqDiff, Nat.reduceAdd, Nat.reduceMul, Nat.reduceSub, ↓reduceIte, Int.reduceEq, Int.reduceNe, Nat.reduceLeDiff, one, Value.cells, Int.reduceLE, Int.reduceLT, Int.reduceToNat, add_mk, reduceCtorEq, tyF, hb1.cell, FlowM.c1]
    refine bslice (z := .int .u8 0) (cells := #[.int .u8 6, .int .u8 f.proto]) Try.underlying22 byteE (by omega) (by have := bcells_list (z := .int .u8 0) [.int .u8 6, .int .u8 f.proto] (by intro v hv; simp at hv; rcases hv with rfl | rfl <;> rfl); exact this) ?_
    simp (config := {maxSteps := 1000000}) only [↓zvD, zvU, ↓up_apply, ↓hv_apply, ↓upO_some, ↓upO_none, ↓ev_tmp, ↓ev_const, ↓ev_func, ↓ev_global, init, Nat.reduceEqDiff, Nat.reduceAdd, Nat.reduceMul, Nat.reduceSub, ↓reduceIte, Int.reduceEq, Int.reduceNe, Nat.reduceLeDiff, one, Value.cells, Int.reduceLE, Int.reduceLT, Int.reduceToNat, add_mk, reduceCtorEq, tyF]
    have hm2 := more_alloc w1 (.cells #[.int .u8 6, .int .u8 f.proto] 5)
    have hown := Own.made w1 5 1 #[.int .u8 6, .int .u8 f.proto] 2 rfl (by simp [maxLen]) (Nat.le_refl _)
    have epre : [.int .u8 6, .int .u8 f.proto] = ([u8 6] ++ [u8 f.proto]).map byteV := by rw [List.map_append, List.map_singleton, List.map_singleton, byteV_u8 (by omega) (by omega), byteV_u8 hf.p0 hf.p1]; rfl
    have hb2 := hb1.more hm2
    replace hm2 := hm1.trans hm2
    generalize w1.alloc (.cells #[.int .u8 6, .int .u8 f.proto] 5) = w2 at hm2 hb2 hown ⊢
    rw [List.toList_toArray, epre] at hown
    clear hb1 hm1
    generalize w1.heap.size = q at s1 hown ⊢
    obtain ⟨P1, hP1⟩ : ∃ P : List UInt8, P = [u8 6] ++ [u8 f.proto] := ⟨_, rfl⟩
    have hl1 : P1.length = 2 := by rw [hP1]; rfl
    rw [← hP1] at hown
    have hown : Own w2 q 5 1 (some ⟨q, 0, none⟩) (P1.length + 0) 2 ((P1 ++ f.src.take 0).map byteV) := by rw [hl1]; simpa using hown
    refine loop_p [5, 6, 15, 16, 17, 18, 19, 20, 21, 22, 23, 24, 25] (fun e w' => RefKJ f w q 16 P1 f.src (e 5) (e 15) w') (fun e _ => 16 - (numOf (e 15)).toNat) ?_ ?_
    · exact ⟨0, some ⟨q, 0, none⟩, 2, by simp only [hv_apply, up_apply, upO_some, upO_none, init, List.mem_cons, true_or, or_true, if_true, if_false, ↓reduceIte, Nat.reduceEqDiff, false_or, or_false, List.not_mem_nil, List.getElem?_cons_zero, List.getElem?_cons_succ, Option.getD_some]; exact (by rw [hl1]), by simp only [hv_apply, up_apply, upO_some, upO_none, init, List.mem_cons, true_or, or_true, if_true, if_false, ↓reduceIte, Nat.reduceEqDiff, false_or, or_false, List.not_mem_nil, List.getElem?_cons_zero, List.getElem?_cons_succ, Option.getD_some]; rfl, by omega, by first | exact hown | simpa using hown, hb2, hm2⟩
    clear hown
    rintro v w5 ⟨k, A5, c5, h5, h15, hk, ho5, hb5, hm5⟩
    simp only [hv_apply, up_apply, upO_some, upO_none, init, List.mem_cons, true_or, or_true, if_true, if_false, ↓reduceIte, Nat.reduceEqDiff, false_or, or_false, List.not_mem_nil, List.getElem?_cons_zero, List.getElem?_cons_succ, Option.getD_some] at h5 h15
    have hs5 := hm5.size
    have hq5 : q ≤ w5.heap.size := by have := hb5.lt; omega
    have ek : IntKind.i64.wrap ((k : Int) + 1) = ((k + 1 : Nat) : Int) := w64 (by omega) (by omega)
    have g0 : (0 : Int) ≤ (k : Int) := by omega
    simp (config := {maxSteps := 1000000}) only [↓zvD, zvU, ↓up_apply, ↓hv_apply, ↓upO_some, ↓upO_none, ↓ev_tmp, ↓ev_const, ↓ev_func, ↓ev_global, init, Nat.reduceEqDiff, Nat.reduceAdd, Nat.reduceMul, Nat.reduceSub, ↓reduceIte, Int.reduceEq, Int.reduceNe, Nat.reduceLeDiff, one, Value.cells, Int.reduceLE, Int.reduceLT, Int.reduceToNat, add_mk, reduceCtorEq, tyF, h5, h15]
    refine ⟨fun h9 => ?_, fun h9 => ?_⟩
    · have hck := FlowM.srcAt hf (k := k) (by omega)
      have hck0 := hb5.cell
      have g1 : (k : Int) < 16 := by omega
      simp (config := {maxSteps := 1000000}) only [↓zvD, zvU, ↓up_apply, ↓hv_apply, ↓upO_some, ↓upO_none, ↓ev_tmp, ↓ev_const, ↓ev_func, ↓ev_global, init, Nat.reduceEqDiff, Nat.reduceAdd, Nat.reduceMul, Nat.reduceSub, ↓reduceIte, Int.reduceEq, Int.reduceNe, Nat.reduceLeDiff, one, Value.cells, Int.reduceLE, Int.reduceLT, Int.reduceToNat, add_mk, reduceCtorEq, tyF, h5, h15, g0, g1, hck0, hck, Int.toNat_natCast]
      refine bslice (z := .int .u8 0) (cells := #[.int .u8 (bt f.src k)]) Try.underlying22 byteE (by omega) (by have := bcells_list (z := .int .u8 0) [.int .u8 (bt f.src k)] (by intro v hv; simp at hv; subst hv; rfl); exact this) ?_
      simp (config := {maxSteps := 1000000}) only [↓zvD, zvU, ↓up_apply, ↓hv_apply, ↓upO_some, ↓upO_none, ↓ev_tmp, ↓ev_const, ↓ev_func, ↓ev_global, init, Nat.reduceEqDiff, Nat.reduceAdd, Nat.reduceMul, Nat.reduceSub, ↓reduceIte, Int.reduceEq, Int.reduceNe, Nat.reduceLeDiff, one, Value.cells, Int.reduceLE, Int.reduceLT, Int.reduceToNat, add_mk, reduceCtorEq, tyF, h5]
      have hm6 := more_alloc w5 (.cells #[.int .u8 (bt f.src k)] 5)
      have hb6 := Blk.new w5 5 #[.int .u8 (bt f.src k)]
      generalize w5.alloc (.cells #[.int .u8 (bt f.src k)] 5) = w6 at hm6 hb6 ⊢
      have hs6 := hm6.size
      refine app_own (m := 1) Try.underlying22 byteE rfl (by omega) (ho5.more hm6) hb6.cs rfl (by intro u hu; simp at hu; subst hu; rfl) (by simp only [maxLen]; omega) (by omega) (by omega) ?_
      intro A7 c7 w7 ho7 hg7 _
      have hm7 : Below q w6 w7 := grown_below (ho5.more hm6) (Below.refl _ _) (by omega) hg7
      simp (config := {maxSteps := 1000000}) only [↓zvD, zvU, ↓up_apply, ↓hv_apply, ↓upO_some, ↓upO_none, ↓ev_tmp, ↓ev_const, ↓ev_func, ↓ev_global, init, Nat.reduceEqDiff, Nat.reduceAdd, Nat.reduceMul, Nat.reduceSub, ↓reduceIte, Int.reduceEq, Int.reduceNe, Nat.reduceLeDiff, one, Value.cells, Int.reduceLE, Int.reduceLT, Int.reduceToNat, add_mk, reduceCtorEq, tyF, h5, h15, ek]
      refine ⟨⟨?_, k + 1, A7, c7, rfl, rfl, by omega, ?_, (hm7.block _ (by omega)).trans (hb5.more hm6), Below.trans (hm5.trans hm6) (hm7.mono (by omega))⟩, by simp only [numOf]; omega⟩
      · repeat (first | exact Same.hv _ _ _ | refine Same.up (by simp) ?_)
      · rw [bt_take_succ (by first | (rw [hf.src]; omega) | (rw [hf.dst]; omega)), ← List.append_assoc, List.map_append, List.map_singleton, u8_byte]
        exact ho7
    obtain rfl : k = 16 := by omega
    obtain ⟨P2, hP2⟩ : ∃ P : List UInt8, P = P1 ++ f.src.take 16 := ⟨_, rfl⟩
    have hl2 : P2.length = P1.length + 16 := by rw [hP2]; simp [hf.src]
    rw [← hl2] at ho5 h5
    rw [← hP2] at ho5
    have hown : Own w5 q 5 1 A5 (P2.length + 0) c5 ((P2 ++ f.dst.take 0).map byteV) := by simpa using ho5
    clear ho5 h15
    refine loop_p [5, 7, 27, 28, 29, 30, 31, 32, 33, 34, 35, 36, 37] (fun e w' => RefKJ f w q 16 P2 f.dst (e 5) (e 27) w') (fun e _ => 16 - (numOf (e 27)).toNat) ?_ ?_
    · exact ⟨0, A5, c5, by simp only [hv_apply, up_apply, upO_some, upO_none, init, List.mem_cons, true_or, or_true, if_true, if_false, ↓reduceIte, Nat.reduceEqDiff, false_or, or_false, List.not_mem_nil, List.getElem?_cons_zero, List.getElem?_cons_succ, Option.getD_some]; exact h5, by simp only [hv_apply, up_apply, upO_some, upO_none, init, List.mem_cons, true_or, or_true, if_true, if_false, ↓reduceIte, Nat.reduceEqDiff, false_or, or_false, List.not_mem_nil, List.getElem?_cons_zero, List.getElem?_cons_succ, Option.getD_some]; rfl, by omega, by first | exact hown | simpa using hown, hb5, hm5⟩
    clear hown
    rintro v w8 ⟨k, A5, c5, h5, h15, hk, ho5, hb8, hm8⟩
    simp only [hv_apply, up_apply, upO_some, upO_none, init, List.mem_cons, true_or, or_true, if_true, if_false, ↓reduceIte, Nat.reduceEqDiff, false_or, or_false, List.not_mem_nil, List.getElem?_cons_zero, List.getElem?_cons_succ, Option.getD_some] at h5 h15
    have hs5 := hm8.size
    have hq5 : q ≤ w8.heap.size := by have := hb8.lt; omega
    have ek : IntKind.i64.wrap ((k : Int) + 1) = ((k + 1 : Nat) : Int) := w64 (by omega) (by omega)
    have g0 : (0 : Int) ≤ (k : Int) := by omega
    simp (config := {maxSteps := 1000000}) only [↓zvD, zvU, ↓up_apply, ↓hv_apply, ↓upO_some, ↓upO_none, ↓ev_tmp, ↓ev_const, ↓ev_func, ↓ev_global, init, Nat.reduceEqDiff, Nat.reduceAdd, Nat.reduceMul, Nat.reduceSub, ↓reduceIte, Int.reduceEq, Int.reduceNe, Nat.reduceLeDiff, one, Value.cells, Int.reduceLE, Int.reduceLT, Int.reduceToNat, add_mk, reduceCtorEq, tyF, h5, h15]
    refine ⟨fun h9 => ?_, fun h9 => ?_⟩
    · have hck := FlowM.dstAt hf (k := k) (by omega)
      have hck0 := hb8.cell
      have g1 : (k : Int) < 16 := by omega
      simp (config := {maxSteps := 1000000}) only [↓zvD, zvU, ↓up_apply, ↓hv_apply, ↓upO_some, ↓upO_none, ↓ev_tmp, ↓ev_const, ↓ev_func, ↓ev_global, init, Nat.reduceEqDiff, Nat.reduceAdd, Nat.reduceMul, Nat.reduceSub, ↓reduceIte, Int.reduceEq, Int.reduceNe, Nat.reduceLeDiff, one, Value.cells, Int.reduceLE, Int.reduceLT, Int.reduceToNat, add_mk, reduceCtorEq, tyF, h5, h15, g0, g1, hck0, hck, Int.toNat_natCast]
      refine bslice (z := .int .u8 0) (cells := #[.int .u8 (bt f.dst k)]) Try.underlying22 byteE (by omega) (by have := bcells_list (z := .int .u8 0) [.int .u8 (bt f.dst k)] (by intro v hv; simp at hv; subst hv; rfl); exact this) ?_
      simp (config := {maxSteps := 1000000}) only [↓zvD, zvU, ↓up_apply, ↓hv_apply, ↓upO_some, ↓upO_none, ↓ev_tmp, ↓ev_const, ↓ev_func, ↓ev_global, init, Nat.reduceEqDiff, Nat.reduceAdd, Nat.reduceMul, Nat.reduceSub, ↓reduceIte, Int.reduceEq, Int.reduceNe, Nat.reduceLeDiff, one, Value.cells, Int.reduceLE, Int.reduceLT, Int.reduceToNat, add_mk, reduceCtorEq, tyF, h5]
      have hm6 := more_alloc w8 (.cells #[.int .u8 (bt f.dst k)] 5)
      have hb6 := Blk.new w8 5 #[.int .u8 (bt f.dst k)]
      generalize w8.alloc (.cells #[.int .u8 (bt f.dst k)] 5) = w6 at hm6 hb6 ⊢
      have hs6 := hm6.size
      refine app_own (m := 1) Try.underlying22 byteE rfl (by omega) (ho5.more hm6) hb6.cs rfl (by intro u hu; simp at hu; subst hu; rfl) (by simp only [maxLen]; omega) (by omega) (by omega) ?_
      intro A7 c7 w7 ho7 hg7 _
      have hm7 : Below q w6 w7 := grown_below (ho5.more hm6) (Below.refl _ _) (by omega) hg7
      simp (config := {maxSteps := 1000000}) only [↓zvD, zvU, ↓up_apply, ↓hv_apply, ↓upO_some, ↓upO_none, ↓ev_tmp, ↓ev_const, ↓ev_func, ↓ev_global, init, Nat.reduceEqDiff, Nat.reduceAdd, Nat.reduceMul, Nat.reduceSub, ↓reduceIte, Int.reduceEq, Int.reduceNe, Nat.reduceLeDiff, one, Value.cells, Int.reduceLE, Int.reduceLT, Int.reduceToNat, add_mk, reduceCtorEq, tyF, h5, h15, ek]
      refine ⟨⟨?_, k + 1, A7, c7, rfl, rfl, by omega, ?_, (hm7.block _ (by omega)).trans (hb8.more hm6), Below.trans (hm8.trans hm6) (hm7.mono (by omega))⟩, by simp only [numOf]; omega⟩
      · repeat (first | exact Same.hv _ _ _ | refine Same.up (by simp) ?_)
      · rw [bt_take_succ (by first | (rw [hf.src]; omega) | (rw [hf.dst]; omega)), ← List.append_assoc, List.map_append, List.map_singleton, u8_byte]
        exact ho7
    obtain rfl : k = 16 := by omega
    have hc8 := hb8.cell
    have hs0 := hf.s0
    have hs1 := hf.s1
    have hd0 := hf.d0
    have hd1 := hf.d1
    have q1 : Int.tdiv f.sp 256 = f.sp / 256 := Int.tdiv_eq_ediv_of_nonneg hs0
    have q2 : Int.tmod f.sp 256 = f.sp % 256 := Int.tmod_eq_emod_of_nonneg hs0
    have q3 : Int.tdiv f.dp 256 = f.dp / 256 := Int.tdiv_eq_ediv_of_nonneg hd0
    have q4 : Int.tmod f.dp 256 = f.dp % 256 := Int.tmod_eq_emod_of_nonneg hd0
    have q5 : IntKind.u8.wrap (f.sp / 256) = f.sp / 256 := wu8 (by omega) (by omega)
    have q6 : IntKind.u8.wrap (f.dp / 256) = f.dp / 256 := wu8 (by omega) (by omega)
    have q7 : IntKind.u8.wrap (f.sp % 256) = f.sp % 256 := wu8 (by omega) (by omega)
    have q8 : IntKind.u8.wrap (f.dp % 256) = f.dp % 256 := wu8 (by omega) (by omega)
    have q9 : IntKind.u16.wrap (f.sp / 256) = f.sp / 256 := wu16 (by omega) (by omega)
    have q10 : IntKind.u16.wrap (f.dp / 256) = f.dp / 256 := wu16 (by omega) (by omega)
    simp (config := {maxSteps := 1000000}) only [↓zvD, zvU, ↓up_apply, ↓hv_apply, ↓upO_some, ↓upO_none, ↓ev_tmp, ↓ev_const, ↓ev_func, ↓ev_global, init, Nat.reduceEqDiff, Nat.reduceAdd, Nat.reduceMul, Nat.reduceSub, ↓reduceIte, Int.reduceEq, Int.reduceNe, Nat.reduceLeDiff, one, Value.cells, Int.reduceLE, Int.reduceLT, Int.reduceToNat, add_mk, reduceCtorEq, tyF, h5, hc8, FlowM.cS hf, FlowM.cD hf, q1, q2, q3, q4, q5, q6, q7, q8, q9, q10]
    have enum : ([.int .u8 (f.sp / 256), .int .u8 (f.sp % 256), .int .u8 (f.dp / 256), .int .u8 (f.dp % 256)] : List Value) = (numB f.sp 2 ++ numB f.dp 2).map byteV := by
      have d1 : dig f.sp 1 = f.sp / 256 := by simp [dig]; omega
      have d2 : dig f.sp 0 = f.sp % 256 := by simp [dig]
      have d3 : dig f.dp 1 = f.dp / 256 := by simp [dig]; omega
      have d4 : dig f.dp 0 = f.dp % 256 := by simp [dig]
      simp only [numB, d1, d2, d3, d4, List.map_append, List.map_cons, List.map_nil, List.cons_append, List.nil_append]
      rw [byteV_u8 (by omega) (by omega), byteV_u8 (by omega) (by omega), byteV_u8 (by omega) (by omega), byteV_u8 (by omega) (by omega)]
    refine bslice (z := .int .u8 0) (cells := #[.int .u8 (f.sp / 256), .int .u8 (f.sp % 256), .int .u8 (f.dp / 256), .int .u8 (f.dp % 256)]) Try.underlying22 byteE (by omega) (by have := bcells_list (z := .int .u8 0) [.int .u8 (f.sp / 256), .int .u8 (f.sp % 256), .int .u8 (f.dp / 256), .int .u8 (f.dp % 256)] (by intro v hv; simp at hv; rcases hv with rfl | rfl | rfl | rfl <;> rfl); exact this) ?_
    have hm9 := more_alloc w8 (.cells #[.int .u8 (f.sp / 256), .int .u8 (f.sp % 256), .int .u8 (f.dp / 256), .int .u8 (f.dp % 256)] 5)
    have hb9 := Blk.new w8 5 #[.int .u8 (f.sp / 256), .int .u8 (f.sp % 256), .int .u8 (f.dp / 256), .int .u8 (f.dp % 256)]
    generalize w8.alloc (.cells #[.int .u8 (f.sp / 256), .int .u8 (f.sp % 256), .int .u8 (f.dp / 256), .int .u8 (f.dp % 256)] 5) = w9 at hm9 hb9 ⊢
    rw [List.toList_toArray] at hb9
    have hs9 := hm9.size
    simp (config := {maxSteps := 1000000}) only [↓zvD, zvU, ↓up_apply, ↓hv_apply, ↓upO_some, ↓upO_none, ↓ev_tmp, ↓ev_const, ↓ev_func, ↓ev_global, init, Nat.reduceEqDiff, Nat.reduceAdd, Nat.reduceMul, Nat.reduceSub, ↓reduceIte, Int.reduceEq, Int.reduceNe, Nat.reduceLeDiff, one, Value.cells, Int.reduceLE, Int.reduceLT, Int.reduceToNat, add_mk, reduceCtorEq, tyF, h5]
    refine app_own (m := 4) Try.underlying22 byteE rfl (by omega) (ho5.more hm9) hb9.cs rfl (by intro u hu; simp at hu; rcases hu with rfl | rfl | rfl | rfl <;> rfl) (by simp only [maxLen]; omega) (by omega) (by omega) ?_
    intro A7 c7 w10 ho10 hg10 _
    have hm10 : Below q w9 w10 := grown_below (ho5.more hm9) (Below.refl _ _) (by omega) hg10
    simp (config := {maxSteps := 1000000}) only [↓zvD, zvU, ↓up_apply, ↓hv_apply, ↓upO_some, ↓upO_none, ↓ev_tmp, ↓ev_const, ↓ev_func, ↓ev_global, init, Nat.reduceEqDiff, Nat.reduceAdd, Nat.reduceMul, Nat.reduceSub, ↓reduceIte, Int.reduceEq, Int.reduceNe, Nat.reduceLeDiff, one, Value.cells, Int.reduceLE, Int.reduceLT, Int.reduceToNat, add_mk, reduceCtorEq, tyF]
    have hk : P2 ++ f.dst.take 16 ++ (numB f.sp 2 ++ numB f.dp 2) = keyM f := by rw [hP2, hP1]; simp only [keyM, adrN, hv, if_true, if_false, Bool.false_eq_true, List.append_assoc]
    have hkl : (keyM f).length = P2.length + 16 + 4 := by rw [← hk]; simp [hf.dst, numB_len]
    rw [enum, ← List.map_append, hk, ← hkl] at ho10
    rw [← hkl]
    exact ⟨A7, c7, rfl, ho10.mono (by omega), Below.trans (hm8.trans hm9) (hm10.mono (by omega))⟩
  · simp (config := {maxSteps := 1000000}) only [↓zvD, zvU, ↓up_apply, ↓hv_apply, ↓upO_some, ↓upO_none, ↓ev_tmp, ↓ev_const, ↓ev_func, ↓ev_global, init, Nat.reduceEqDiff, Nat.reduceAdd, Nat.reduceMul, Nat.reduceSub, ↓reduceIte, Int.reduceEq, Int.reduceNe, Nat.reduceLeDiff, one, Value.cells, Int.reduceLE, Int.reduceLT, Int.reduceToNat, add_mk, reduceCtorEq, tyF, hb1.cell, FlowM.c1]
    refine bslice (z := .int .u8 0) (cells := #[.int .u8 4, .int .u8 f.proto]) Try.underlying22 byteE (by omega) (by have := bcells_list (z := .int .u8 0) [.int .u8 4, .int .u8 f.proto] (by intro v hv; simp at hv; rcases hv with rfl | rfl <;> rfl); exact this) ?_
    simp (config := {maxSteps := 1000000}) only [↓zvD, zvU, ↓up_apply, ↓hv_apply, ↓upO_some, ↓upO_none, ↓ev_tmp, ↓ev_const, ↓ev_func, ↓ev_global, init, Nat.reduceEqDiff, Nat.reduceAdd, Nat.reduceMul, Nat.reduceSub, ↓reduceIte, Int.reduceEq, Int.reduceNe, Nat.reduceLeDiff, one, Value.cells, Int.reduceLE, Int.reduceLT, Int.reduceToNat, add_mk, reduceCtorEq, tyF]
    have hm2 := more_alloc w1 (.cells #[.int .u8 4, .int .u8 f.proto] 5)
    have hown := Own.made w1 5 1 #[.int .u8 4, .int .u8 f.proto] 2 rfl (by simp [maxLen]) (Nat.le_refl _)
    have epre : [.int .u8 4, .int .u8 f.proto] = ([u8 4] ++ [u8 f.proto]).map byteV := by rw [List.map_append, List.map_singleton, List.map_singleton, byteV_u8 (by omega) (by omega), byteV_u8 hf.p0 hf.p1]; rfl
    have hb2 := hb1.more hm2
    replace hm2 := hm1.trans hm2
    generalize w1.alloc (.cells #[.int .u8 4, .int .u8 f.proto] 5) = w2 at hm2 hb2 hown ⊢
    rw [List.toList_toArray, epre] at hown
    clear hb1 hm1
    generalize w1.heap.size = q at s1 hown ⊢
    obtain ⟨P1, hP1⟩ : ∃ P : List UInt8, P = [u8 4] ++ [u8 f.proto] := ⟨_, rfl⟩
    have hl1 : P1.length = 2 := by rw [hP1]; rfl
    rw [← hP1] at hown
    have hown : Own w2 q 5 1 (some ⟨q, 0, none⟩) (P1.length + 0) 2 ((P1 ++ f.src.take 0).map byteV) := by rw [hl1]; simpa using hown
    refine loop_p [5, 6, 15, 16, 17, 18, 19, 20, 21, 22, 23, 24, 25] (fun e w' => RefKJ f w q 4 P1 f.src (e 5) (e 15) w') (fun e _ => 4 - (numOf (e 15)).toNat) ?_ ?_
    · exact ⟨0, some ⟨q, 0, none⟩, 2, by simp only [hv_apply, up_apply, upO_some, upO_none, init, List.mem_cons, true_or, or_true, if_true, if_false, ↓reduceIte, Nat.reduceEqDiff, false_or, or_false, List.not_mem_nil, List.getElem?_cons_zero, List.getElem?_cons_succ, Option.getD_some]; exact (by rw [hl1]), by simp only [hv_apply, up_apply, upO_some, upO_none, init, List.mem_cons, true_or, or_true, if_true, if_false, ↓reduceIte, Nat.reduceEqDiff, false_or, or_false, List.not_mem_nil, List.getElem?_cons_zero, List.getElem?_cons_succ, Option.getD_some]; rfl, by omega, by first | exact hown | simpa using hown, hb2, hm2⟩
    clear hown
    rintro v w5 ⟨k, A5, c5, h5, h15, hk, ho5, hb5, hm5⟩
    simp only [hv_apply, up_apply, upO_some, upO_none, init, List.mem_cons, true_or, or_true, if_true, if_false, ↓reduceIte, Nat.reduceEqDiff, false_or, or_false, List.not_mem_nil, List.getElem?_cons_zero, List.getElem?_cons_succ, Option.getD_some] at h5 h15
    have hs5 := hm5.size
    have hq5 : q ≤ w5.heap.size := by have := hb5.lt; omega
    have ek : IntKind.i64.wrap ((k : Int) + 1) = ((k + 1 : Nat) : Int) := w64 (by omega) (by omega)
    have g0 : (0 : Int) ≤ (k : Int) := by omega
    simp (config := {maxSteps := 1000000}) only [↓zvD, zvU, ↓up_apply, ↓hv_apply, ↓upO_some, ↓upO_none, ↓ev_tmp, ↓ev_const, ↓ev_func, ↓ev_global, init, Nat.reduceEqDiff, Nat.reduceAdd, Nat.reduceMul, Nat.reduceSub, ↓reduceIte, Int.reduceEq, Int.reduceNe, Nat.reduceLeDiff, one, Value.cells, Int.reduceLE, Int.reduceLT, Int.reduceToNat, add_mk, reduceCtorEq, tyF, h5, h15]
    refine ⟨fun h9 => ?_, fun h9 => ?_⟩
    · have hck := FlowM.srcAt hf (k := k) (by omega)
      have hck0 := hb5.cell
      have g1 : (k : Int) < 16 := by omega
      simp (config := {maxSteps := 1000000}) only [↓zvD, zvU, ↓up_apply, ↓hv_apply, ↓upO_some, ↓upO_none, ↓ev_tmp, ↓ev_const, ↓ev_func, ↓ev_global, init, Nat.reduceEqDiff, Nat.reduceAdd, Nat.reduceMul, Nat.reduceSub, ↓reduceIte, Int.reduceEq, Int.reduceNe, Nat.reduceLeDiff, one, Value.cells, Int.reduceLE, Int.reduceLT, Int.reduceToNat, add_mk, reduceCtorEq, tyF, h5, h15, g0, g1, hck0, hck, Int.toNat_natCast]
      refine bslice (z := .int .u8 0) (cells := #[.int .u8 (bt f.src k)]) Try.underlying22 byteE (by omega) (by have := bcells_list (z := .int .u8 0) [.int .u8 (bt f.src k)] (by intro v hv; simp at hv; subst hv; rfl); exact this) ?_
      simp (config := {maxSteps := 1000000}) only [↓zvD, zvU, ↓up_apply, ↓hv_apply, ↓upO_some, ↓upO_none, ↓ev_tmp, ↓ev_const, ↓ev_func, ↓ev_global, init, Nat.reduceEqDiff, Nat.reduceAdd, Nat.reduceMul, Nat.reduceSub, ↓reduceIte, Int.reduceEq, Int.reduceNe, Nat.reduceLeDiff, one, Value.cells, Int.reduceLE, Int.reduceLT, Int.reduceToNat, add_mk, reduceCtorEq, tyF, h5]
      have hm6 := more_alloc w5 (.cells #[.int .u8 (bt f.src k)] 5)
      have hb6 := Blk.new w5 5 #[.int .u8 (bt f.src k)]
      generalize w5.alloc (.cells #[.int .u8 (bt f.src k)] 5) = w6 at hm6 hb6 ⊢
      have hs6 := hm6.size
      refine app_own (m := 1) Try.underlying22 byteE rfl (by omega) (ho5.more hm6) hb6.cs rfl (by intro u hu; simp at hu; subst hu; rfl) (by simp only [maxLen]; omega) (by omega) (by omega) ?_
      intro A7 c7 w7 ho7 hg7 _
      have hm7 : Below q w6 w7 := grown_below (ho5.more hm6) (Below.refl _ _) (by omega) hg7
      simp (config := {maxSteps := 1000000}) only [↓zvD, zvU, ↓up_apply, ↓hv_apply, ↓upO_some, ↓upO_none, ↓ev_tmp, ↓ev_const, ↓ev_func, ↓ev_global, init, Nat.reduceEqDiff, Nat.reduceAdd, Nat.reduceMul, Nat.reduceSub, ↓reduceIte, Int.reduceEq, Int.reduceNe, Nat.reduceLeDiff, one, Value.cells, Int.reduceLE, Int.reduceLT, Int.reduceToNat, add_mk, reduceCtorEq, tyF, h5, h15, ek]
      refine ⟨⟨?_, k + 1, A7, c7, rfl, rfl, by omega, ?_, (hm7.block _ (by omega)).trans (hb5.more hm6), Below.trans (hm5.trans hm6) (hm7.mono (by omega))⟩, by simp only [numOf]; omega⟩
      · repeat (first | exact Same.hv _ _ _ | refine Same.up (by simp) ?_)
      · rw [bt_take_succ (by first | (rw [hf.src]; omega) | (rw [hf.dst]; omega)), ← List.append_assoc, List.map_append, List.map_singleton, u8_byte]
        exact ho7
    obtain rfl : k = 4 := by omega
    obtain ⟨P2, hP2⟩ : ∃ P : List UInt8, P = P1 ++ f.src.take 4 := ⟨_, rfl⟩
    have hl2 : P2.length = P1.length + 4 := by rw [hP2]; simp [hf.src]
    rw [← hl2] at ho5 h5
    rw [← hP2] at ho5
    have hown : Own w5 q 5 1 A5 (P2.length + 0) c5 ((P2 ++ f.dst.take 0).map byteV) := by simpa using ho5
    clear ho5 h15
    refine loop_p [5, 7, 27, 28, 29, 30, 31, 32, 33, 34, 35, 36, 37] (fun e w' => RefKJ f w q 4 P2 f.dst (e 5) (e 27) w') (fun e _ => 4 - (numOf (e 27)).toNat) ?_ ?_
    · exact ⟨0, A5, c5, by simp only [hv_apply, up_apply, upO_some, upO_none, init, List.mem_cons, true_or, or_true, if_true, if_false, ↓reduceIte, Nat.reduceEqDiff, false_or, or_false, List.not_mem_nil, List.getElem?_cons_zero, List.getElem?_cons_succ, Option.getD_some]; exact h5, by simp only [hv_apply, up_apply, upO_some, upO_none, init, List.mem_cons, true_or, or_true, if_true, if_false, ↓reduceIte, Nat.reduceEqDiff, false_or, or_false, List.not_mem_nil, List.getElem?_cons_zero, List.getElem?_cons_succ, Option.getD_some]; rfl, by omega, by first | exact hown | simpa using hown, hb5, hm5⟩
    clear hown
    rintro v w8 ⟨k, A5, c5, h5, h15, hk, ho5, hb8, hm8⟩
    simp only [hv_apply, up_apply, upO_some, upO_none, init, List.mem_cons, true_or, or_true, if_true, if_false, ↓reduceIte, Nat.reduceEqDiff, false_or, or_false, List.not_mem_nil, List.getElem?_cons_zero, List.getElem?_cons_succ, Option.getD_some] at h5 h15
    have hs5 := hm8.size
    have hq5 : q ≤ w8.heap.size := by have := hb8.lt; omega
    have ek : IntKind.i64.wrap ((k : Int) + 1) = ((k + 1 : Nat) : Int) := w64 (by omega) (by omega)
    have g0 : (0 : Int) ≤ (k : Int) := by omega
    simp (config := {maxSteps := 1000000}) only [↓zvD, zvU, ↓up_apply, ↓hv_apply, ↓upO_some, ↓upO_none, ↓ev_tmp, ↓ev_const, ↓ev_func, ↓ev_global, init, Nat.reduceEqDiff, Nat.reduceAdd, Nat.reduceMul, Nat.reduceSub, ↓reduceIte, Int.reduceEq, Int.reduceNe, Nat.reduceLeDiff, one, Value.cells, Int.reduceLE, Int.reduceLT, Int.reduceToNat, add_mk, reduceCtorEq, tyF, h5, h15]
    refine ⟨fun h9 => ?_, fun h9 => ?_⟩
    · have hck := FlowM.dstAt hf (k := k) (by omega)
      have hck0 := hb8.cell
      have g1 : (k : Int) < 16 := by omega
      simp (config := {maxSteps := 1000000}) only [↓zvD, zvU, ↓up_apply, ↓hv_apply, ↓upO_some, ↓upO_none, ↓ev_tmp, ↓ev_const, ↓ev_func, ↓ev_global, init, Nat.reduceEqDiff, Nat.reduceAdd, Nat.reduceMul, Nat.reduceSub, ↓reduceIte, Int.reduceEq, Int.reduceNe, Nat.reduceLeDiff, one, Value.cells, Int.reduceLE, Int.reduceLT, Int.reduceToNat, add_mk, reduceCtorEq, tyF, h5, h15, g0, g1, hck0, hck, Int.toNat_natCast]
      refine bslice (z := .int .u8 0) (cells := #[.int .u8 (bt f.dst k)]) Try.underlying22 byteE (by omega) (by have := bcells_list (z := .int .u8 0) [.int .u8 (bt f.dst k)] (by intro v hv; simp at hv; subst hv; rfl); exact this) ?_
      simp (config := {maxSteps := 1000000}) only [↓zvD, zvU, ↓up_apply, ↓hv_apply, ↓upO_some, ↓upO_none, ↓ev_tmp, ↓ev_const, ↓ev_func, ↓ev_global, init, Nat.reduceEqDiff, Nat.reduceAdd, Nat.reduceMul, Nat.reduceSub, ↓reduceIte, Int.reduceEq, Int.reduceNe, Nat.reduceLeDiff, one, Value.cells, Int.reduceLE, Int.reduceLT, Int.reduceToNat, add_mk, reduceCtorEq, tyF, h5]
      have hm6 := more_alloc w8 (.cells #[.int .u8 (bt f.dst k)] 5)
      have hb6 := Blk.new w8 5 #[.int .u8 (bt f.dst k)]
      generalize w8.alloc (.cells #[.int .u8 (bt f.dst k)] 5) = w6 at hm6 hb6 ⊢
      have hs6 := hm6.size
      refine app_own (m := 1) Try.underlying22 byteE rfl (by omega) (ho5.more hm6) hb6.cs rfl (by intro u hu; simp at hu; subst hu; rfl) (by simp only [maxLen]; omega) (by omega) (by omega) ?_
      intro A7 c7 w7 ho7 hg7 _
      have hm7 : Below q w6 w7 := grown_below (ho5.more hm6) (Below.refl _ _) (by omega) hg7
      simp (config := {maxSteps := 1000000}) only [↓zvD, zvU, ↓up_apply, ↓hv_apply, ↓upO_some, ↓upO_none, ↓ev_tmp, ↓ev_const, ↓ev_func, ↓ev_global, init, Nat.reduceEqDiff, Nat.reduceAdd, Nat.reduceMul, Nat.reduceSub, ↓reduceIte, Int.reduceEq, Int.reduceNe, Nat.reduceLeDiff, one, Value.cells, Int.reduceLE, Int.reduceLT, Int.reduceToNat, add_mk, reduceCtorEq, tyF, h5, h15, ek]
      refine ⟨⟨?_, k + 1, A7, c7, rfl, rfl, by omega, ?_, (hm7.block _ (by omega)).trans (hb8.more hm6), Below.trans (hm8.trans hm6) (hm7.mono (by omega))⟩, by simp only [numOf]; omega⟩
      · repeat (first | exact Same.hv _ _ _ | refine Same.up (by simp) ?_)
      · rw [bt_take_succ (by first | (rw [hf.src]; omega) | (rw [hf.dst]; omega)), ← List.append_assoc, List.map_append, List.map_singleton, u8_byte]
        exact ho7
    obtain rfl : k = 4 := by omega
    have hc8 := hb8.cell
    have hs0 := hf.s0
    have hs1 := hf.s1
    have hd0 := hf.d0
    have hd1 := hf.d1
    have q1 : Int.tdiv f.sp 256 = f.sp / 256 := Int.tdiv_eq_ediv_of_nonneg hs0
    have q2 : Int.tmod f.sp 256 = f.sp % 256 := Int.tmod_eq_emod_of_nonneg hs0
    have q3 : Int.tdiv f.dp 256 = f.dp / 256 := Int.tdiv_eq_ediv_of_nonneg hd0
    have q4 : Int.tmod f.dp 256 = f.dp % 256 := Int.tmod_eq_emod_of_nonneg hd0
    have q5 : IntKind.u8.wrap (f.sp / 256) = f.sp / 256 := wu8 (by omega) (by omega)
    have q6 : IntKind.u8.wrap (f.dp / 256) = f.dp / 256 := wu8 (by omega) (by omega)
    have q7 : IntKind.u8.wrap (f.sp % 256) = f.sp % 256 := wu8 (by omega) (by omega)
    have q8 : IntKind.u8.wrap (f.dp % 256) = f.dp % 256 := wu8 (by omega) (by omega)
    have q9 : IntKind.u16.wrap (f.sp / 256) = f.sp / 256 := wu16 (by omega) (by omega)
    have q10 : IntKind.u16.wrap (f.dp / 256) = f.dp / 256 := wu16 (by omega) (by omega)
    simp (config := {maxSteps := 1000000}) only [↓zvD, zvU, ↓up_apply, ↓hv_apply, ↓upO_some, ↓upO_none, ↓ev_tmp, ↓ev_const, ↓ev_func, ↓ev_global, init, Nat.reduceEqDiff, Nat.reduceAdd, Nat.reduceMul, Nat.reduceSub, ↓reduceIte, Int.reduceEq, Int.reduceNe, Nat.reduceLeDiff, one, Value.cells, Int.reduceLE, Int.reduceLT, Int.reduceToNat, add_mk, reduceCtorEq, tyF, h5, hc8, FlowM.cS hf, FlowM.cD hf, q1, q2, q3, q4, q5, q6, q7, q8, q9, q10]
    have enum : ([.int .u8 (f.sp / 256), .int .u8 (f.sp % 256), .int .u8 (f.dp / 256), .int .u8 (f.dp % 256)] : List Value) = (numB f.sp 2 ++ numB f.dp 2).map byteV := by
      have d1 : dig f.sp 1 = f.sp / 256 := by simp [dig]; omega
      have d2 : dig f.sp 0 = f.sp % 256 := by simp [dig]
      have d3 : dig f.dp 1 = f.dp / 256 := by simp [dig]; omega
      have d4 : dig f.dp 0 = f.dp % 256 := by simp [dig]
      simp only [numB, d1, d2, d3, d4, List.map_append, List.map_cons, List.map_nil, List.cons_append, List.nil_append]
      rw [byteV_u8 (by omega) (by omega), byteV_u8 (by omega) (by omega), byteV_u8 (by omega) (by omega), byteV_u8 (by omega) (by omega)]
    refine bslice (z := .int .u8 0) (cells := #[.int .u8 (f.sp / 256), .int .u8 (f.sp % 256), .int .u8 (f.dp / 256), .int .u8 (f.dp % 256)]) Try.underlying22 byteE (by omega) (by have := bcells_list (z := .int .u8 0) [.int .u8 (f.sp / 256), .int .u8 (f.sp % 256), .int .u8 (f.dp / 256), .int .u8 (f.dp % 256)] (by intro v hv; simp at hv; rcases hv with rfl | rfl | rfl | rfl <;> rfl); exact this) ?_
    have hm9 := more_alloc w8 (.cells #[.int .u8 (f.sp / 256), .int .u8 (f.sp % 256), .int .u8 (f.dp / 256), .int .u8 (f.dp % 256)] 5)
    have hb9 := Blk.new w8 5 #[.int .u8 (f.sp / 256), .int .u8 (f.sp % 256), .int .u8 (f.dp / 256), .int .u8 (f.dp % 256)]
    generalize w8.alloc (.cells #[.int .u8 (f.sp / 256), .int .u8 (f.sp % 256), .int .u8 (f.dp / 256), .int .u8 (f.dp % 256)] 5) = w9 at hm9 hb9 ⊢
    rw [List.toList_toArray] at hb9
    have hs9 := hm9.size
    simp (config := {maxSteps := 1000000}) only [↓zvD, zvU, ↓up_apply, ↓hv_apply, ↓upO_some, ↓upO_none, ↓ev_tmp, ↓ev_const, ↓ev_func, ↓ev_global, init, Nat.reduceEqDiff, Nat.reduceAdd, Nat.reduceMul, Nat.reduceSub, ↓reduceIte, Int.reduceEq, Int.reduceNe, Nat.reduceLeDiff, one, Value.cells, Int.reduceLE, Int.reduceLT, Int.reduceToNat, add_mk, reduceCtorEq, tyF, h5]
    refine app_own (m := 4) Try.underlying22 byteE rfl (by omega) (ho5.more hm9) hb9.cs rfl (by intro u hu; simp at hu; rcases hu with rfl | rfl | rfl | rfl <;> rfl) (by simp only [maxLen]; omega) (by omega) (by omega) ?_
    intro A7 c7 w10 ho10 hg10 _
    have hm10 : Below q w9 w10 := grown_below (ho5.more hm9) (Below.refl _ _) (by omega) hg10
    simp (config := {maxSteps := 1000000}) only [↓zvD, zvU, ↓up_apply, ↓hv_apply, ↓upO_some, ↓upO_none, ↓ev_tmp, ↓ev_const, ↓ev_func, ↓ev_global, init, Nat.reduceEqDiff, Nat.reduceAdd, Nat.reduceMul, Nat.reduceSub, ↓reduceIte, Int.reduceEq, Int.reduceNe, Nat.reduceLeDiff, one, Value.cells, Int.reduceLE, Int.reduceLT, Int.reduceToNat, add_mk, reduceCtorEq, tyF]
    have hk : P2 ++ f.dst.take 4 ++ (numB f.sp 2 ++ numB f.dp 2) = keyM f := by rw [hP2, hP1]; simp only [keyM, adrN, hv, if_true, if_false, Bool.false_eq_true, List.append_assoc]
    have hkl : (keyM f).length = P2.length + 4 + 4 := by rw [← hk]; simp [hf.dst, numB_len]
    rw [enum, ← List.map_append, hk, ← hkl] at ho10
    rw [← hkl]
    exact ⟨A7, c7, rfl, ho10.mono (by omega), Below.trans (hm8.trans hm9) (hm10.mono (by omega))⟩
end Go.Proofs.Ytgbhgjghlnknjaa
