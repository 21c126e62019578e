/-
  What the engine is made of, new: gens, quota, pace.
-/
import Derived.Test.YtahcaplhdgphcaaGreatCfgR
namespace Go.Proofs.YtahcaplhdgphcaaGreat
open Go Go.RowKit Go.Proofs.RV
set_option linter.unusedSimpArgs false
set_option linter.unusedVariables false
set_option maxRecDepth 10000
set_option maxHeartbeats 4000000
structure GensM where
  buckets : Int
  k0 : List UInt8
  k1 : List UInt8
  old : Int
  moving : Bool
  moved : Int
  epoch : Int
def GensM.cells (g : GensM) : List Value := .int .i64 g.buckets :: (g.k0.map byteV ++ (g.k1.map byteV ++ [.int .i64 g.old, .bool g.moving, .int .i64 g.moved, .int .i64 g.epoch]))
def gensZ : GensM := ⟨0, noBytes 16, noBytes 16, 0, false, 0, 0⟩
theorem zerGens : zer Tryz.prog 231 = some (.agg gensZ.cells.toArray) := by rw [zer231]; rfl
theorem zerKeys : zer Tryz.prog 229 = some (.agg ((noBytes 16).map byteV ++ (noBytes 16).map byteV).toArray) := by rw [zer229]; rfl
theorem keys_build (key : List UInt8) (hk : key.length = 16) (w0 : World) (K : Value → Prop) : pureP Tryz.prog (Instr.build 229 #[(0, .agg (key.map byteV).toArray)]) K = K (.agg (key.map byteV ++ (noBytes 16).map byteV).toArray) := by
  refine build_arrE (s := 16) Tryz.underlying229 cells31 (by decide) zerKeys ?_ w0 K
  refine laid_step (a := []) (b := (noBytes 16).map byteV) (c := (noBytes 16).map byteV) (vs := key.map byteV) rfl rfl rfl (by simp [hk, noBytes]) ?_
  rfl
theorem gens_build (n : Int) (key : List UInt8) (hk : key.length = 16) (w0 : World) (K : Value → Prop) : pureP Tryz.prog (Instr.build 231 #[(0, .int .i64 n), (1, .agg (key.map byteV ++ (noBytes 16).map byteV).toArray)]) K = K (.agg (GensM.mk n key (noBytes 16) 0 false 0 0).cells.toArray) := by
  refine build_of (P := Tryz.prog) (T := 231) _ (by kernel_rfl) zerGens ?_ w0 K
  refine laid_step (a := []) (b := [.int .i64 0]) (c := (noBytes 16).map byteV ++ ((noBytes 16).map byteV ++ [.int .i64 0, .bool false, .int .i64 0, .int .i64 0])) (vs := [.int .i64 n]) rfl rfl (by kernel_rfl) rfl ?_
  refine laid_step (a := [.int .i64 n]) (b := (noBytes 16).map byteV ++ (noBytes 16).map byteV) (c := [.int .i64 0, .bool false, .int .i64 0, .int .i64 0]) (vs := key.map byteV ++ (noBytes 16).map byteV) rfl (by simp) (by kernel_rfl) (by simp [hk, noBytes]) ?_
  simp [laid, GensM.cells]
def GensNewR (n : Int) (key : List UInt8) (w : World) (v : Value) (w' : World) : Prop := More w w' ∧
    (1 ≤ n ∧ n ≤ 64 → ∃ p, v = .tuple #[.pointer (some ⟨p, 0, none⟩), .int .i64 0] ∧ w.heap.size ≤ p ∧ Blk w' p 231 (GensM.mk n key (noBytes 16) 0 false 0 0).cells) ∧
    (¬ (1 ≤ n ∧ n ≤ 64) → v = .tuple #[.pointer none, .int .i64 1])
theorem gens_new (w : World) (n : Int) (key : List UInt8) (hk : key.length = 16) : Ret Tryz.prog 91 #[.int .i64 n, .agg (key.map byteV).toArray] w (GensNewR n key w) := by
  refine ret_of Tryz.func91 rfl (by kernel_rfl) (Nat.le_of_ble_eq_true (by kernel_rfl)) ?_
  simp (config := {maxSteps := 1000000, implicitDefEqProofs := false}) only [↓zvN, zvU, ↓up_apply, ↓hv_apply, ↓upO_some, ↓upO_none, ↓ev_tmp, ↓ev_const, ↓ev_func, ↓ev_global, init, Nat.reduceEqDiff, Nat.reduceAdd, Nat.reduceMul, Nat.reduceSub, ↓reduceIte, Int.reduceEq, Int.reduceNe, Nat.reduceLeDiff, one, Value.cells, Int.reduceLE, Int.reduceLT, Int.reduceToNat, add_mk, reduceCtorEq, List.mem_range'_1, true_and, and_true, and_false, false_and, Nat.reduceLT, Nat.reduceLeDiff, tyF]
  have hm1 := more_alloc w (.cells (key.map byteV).toArray 31)
  have hb1 := Blk.new w 31 (key.map byteV).toArray
  obtain ⟨w1, hw1⟩ : ∃ w1, w.alloc (.cells (key.map byteV).toArray 31) = w1 := ⟨_, rfl⟩
  rw [hw1] at hm1 hb1 ⊢
  clear hw1
  rw [List.toList_toArray] at hb1
  refine ⟨fun h => ⟨hm1, fun ho => absurd ho.1 (by omega), fun _ => rfl⟩, fun h1 => ?_⟩
  refine ⟨fun h => ⟨hm1, fun ho => absurd ho.2 (by omega), fun _ => rfl⟩, fun h2 => ?_⟩
  have k1 := hb1.all_eq 16 (by simp [hk])
  simp (config := {maxSteps := 1000000, implicitDefEqProofs := false}) only [↓zvN, zvU, ↓up_apply, ↓hv_apply, ↓upO_some, ↓upO_none, ↓ev_tmp, ↓ev_const, ↓ev_func, ↓ev_global, init, Nat.reduceEqDiff, Nat.reduceAdd, Nat.reduceMul, Nat.reduceSub, ↓reduceIte, Int.reduceEq, Int.reduceNe, Nat.reduceLeDiff, one, Value.cells, Int.reduceLE, Int.reduceLT, Int.reduceToNat, add_mk, reduceCtorEq, List.mem_range'_1, true_and, and_true, and_false, false_and, Nat.reduceLT, Nat.reduceLeDiff, tyF, k1]
  have b1 := keys_build key hk w1
  have b2 := gens_build n key hk w1
  rw [b1]
  simp (config := {maxSteps := 1000000, implicitDefEqProofs := false}) only [↓zvN, zvU, ↓up_apply, ↓hv_apply, ↓upO_some, ↓upO_none, ↓ev_tmp, ↓ev_const, ↓ev_func, ↓ev_global, init, Nat.reduceEqDiff, Nat.reduceAdd, Nat.reduceMul, Nat.reduceSub, ↓reduceIte, Int.reduceEq, Int.reduceNe, Nat.reduceLeDiff, one, Value.cells, Int.reduceLE, Int.reduceLT, Int.reduceToNat, add_mk, reduceCtorEq, List.mem_range'_1, true_and, and_true, and_false, false_and, Nat.reduceLT, Nat.reduceLeDiff, tyF]
  rw [b2]
  simp (config := {maxSteps := 1000000, implicitDefEqProofs := false}) only [↓zvN, zvU, ↓up_apply, ↓hv_apply, ↓upO_some, ↓upO_none, ↓ev_tmp, ↓ev_const, ↓ev_func, ↓ev_global, init, Nat.reduceEqDiff, Nat.reduceAdd, Nat.reduceMul, Nat.reduceSub, ↓reduceIte, Int.reduceEq, Int.reduceNe, Nat.reduceLeDiff, one, Value.cells, Int.reduceLE, Int.reduceLT, Int.reduceToNat, add_mk, reduceCtorEq, List.mem_range'_1, true_and, and_true, and_false, false_and, Nat.reduceLT, Nat.reduceLeDiff, tyF]
  have hm2 := more_alloc w1 (.cells (GensM.mk n key (noBytes 16) 0 false 0 0).cells.toArray 231)
  exact ⟨hm1.trans hm2, fun _ => ⟨w1.heap.size, rfl, hm1.size, by simpa using Blk.new w1 231 (GensM.mk n key (noBytes 16) 0 false 0 0).cells.toArray⟩, fun hn => absurd ⟨by omega, by omega⟩ hn⟩
def QuotaNewR (n r s : Int) (w : World) (v : Value) (w' : World) : Prop := More w w' ∧
    ((1 ≤ n ∧ n ≤ 129) ∧ (0 ≤ r ∧ r ≤ 1073741824) ∧ (0 ≤ s ∧ s ≤ 1073741824) → ∃ (q p k : Nat), v = .tuple #[.pointer (some ⟨p, 0, none⟩), .int .i64 0] ∧ (k : Int) = n ∧ w.heap.size ≤ q ∧ q < p ∧ Blk w' q 2 (ints (List.replicate k 0)) ∧
      Blk w' p 255 [.int .i64 r, .int .i64 s, .int .i64 0, .slice (some ⟨q, 0, none⟩) k k])
theorem made_ints (k : Nat) : (madeCells (Value.int .i64 0).cells (k * 1)).toList = ints (List.replicate k 0) := by
  have := made_row (E := fun n : Int => [Value.int .i64 n]) (s := 1) (0 : Int) rfl (by decide) (Value.int .i64 0).cells rfl k
  rw [this]
  simp [ints, List.flatMap_replicate]
theorem made_ints1 (k : Nat) : (madeCells #[Value.int .i64 0] k).toList = ints (List.replicate k 0) := by
  have := made_ints k
  rwa [Nat.mul_one] at this
theorem quota_new (w : World) (n r s : Int) (h : (1 ≤ n ∧ n ≤ 129) ∧ (0 ≤ r ∧ r ≤ 1073741824) ∧ (0 ≤ s ∧ s ≤ 1073741824)) : Ret Tryz.prog 93 #[.int .i64 n, .int .i64 r, .int .i64 s] w (QuotaNewR n r s w) := by
  refine ret_of Tryz.func93 rfl (by kernel_rfl) (Nat.le_of_ble_eq_true (by kernel_rfl)) ?_
  have h1 : ¬ n < 1 := by omega
  have h2 : ¬ (129 : Int) < n := by omega
  have h3 : ¬ r < 0 := by omega
  have h4 : ¬ (1073741824 : Int) < r := by omega
  have h5 : ¬ s < 0 := by omega
  have h6 : ¬ (1073741824 : Int) < s := by omega
  obtain ⟨k, rfl⟩ := Int.eq_ofNat_of_zero_le (show 0 ≤ n by omega)
  simp (config := {maxSteps := 1000000, implicitDefEqProofs := false}) only [↓zvN, zvU, ↓up_apply, ↓hv_apply, ↓upO_some, ↓upO_none, ↓ev_tmp, ↓ev_const, ↓ev_func, ↓ev_global, init, Nat.reduceEqDiff, Nat.reduceAdd, Nat.reduceMul, Nat.reduceSub, ↓reduceIte, Int.reduceEq, Int.reduceNe, Nat.reduceLeDiff, one, Value.cells, Int.reduceLE, Int.reduceLT, Int.reduceToNat, add_mk, reduceCtorEq, List.mem_range'_1, true_and, and_true, and_false, false_and, Nat.reduceLT, Nat.reduceLeDiff, tyF, h1, h2, h3, h4, h5, h6]
  refine mk_slice Tryz.underlying22 int64E (by omega) (by simp only [maxLen]; omega) ?_
  have hm2 := more_alloc w (.cells (madeCells (Value.int .i64 0).cells (k * 1)) 2)
  have hb2 := Blk.new w 2 (madeCells (Value.int .i64 0).cells (k * 1))
  have s2 := size_alloc w (.cells (madeCells (Value.int .i64 0).cells (k * 1)) 2)
  obtain ⟨w2, hw2⟩ : ∃ w2, w.alloc (.cells (madeCells (Value.int .i64 0).cells (k * 1)) 2) = w2 := ⟨_, rfl⟩
  rw [hw2] at hm2 hb2 s2 ⊢
  clear hw2
  rw [made_ints] at hb2
  obtain ⟨q, hq⟩ : ∃ q, w.heap.size = q := ⟨_, rfl⟩
  rw [hq] at hb2 s2 ⊢
  have b1 := build_of (P := Tryz.prog) (T := 255) (parts := #[(0, .int .i64 r), (1, .int .i64 s), (3, .slice (some ⟨q, 0, none⟩) k k)]) [.int .i64 r, .int .i64 s, .int .i64 0, .slice (some ⟨q, 0, none⟩) k k] (by kernel_rfl) zer255 (by kernel_rfl) w2
  simp (config := {maxSteps := 1000000, implicitDefEqProofs := false}) only [↓zvN, zvU, ↓up_apply, ↓hv_apply, ↓upO_some, ↓upO_none, ↓ev_tmp, ↓ev_const, ↓ev_func, ↓ev_global, init, Nat.reduceEqDiff, Nat.reduceAdd, Nat.reduceMul, Nat.reduceSub, ↓reduceIte, Int.reduceEq, Int.reduceNe, Nat.reduceLeDiff, one, Value.cells, Int.reduceLE, Int.reduceLT, Int.reduceToNat, add_mk, reduceCtorEq, List.mem_range'_1, true_and, and_true, and_false, false_and, Nat.reduceLT, Nat.reduceLeDiff, tyF, b1]
  have hm3 := more_alloc w2 (.cells #[.int .i64 r, .int .i64 s, .int .i64 0, .slice (some ⟨q, 0, none⟩) k k] 255)
  exact ⟨hm2.trans hm3, fun _ => ⟨q, w2.heap.size, k, rfl, rfl, by omega, by omega, hb2.more hm3, Blk.new _ _ _⟩⟩
def PaceNewR (ns : Int) (w : World) (v : Value) (w' : World) : Prop := More w w' ∧
    (1 ≤ ns ∧ ns ≤ 1000000 → ∃ p, v = .tuple #[.pointer (some ⟨p, 0, none⟩), .int .i64 0] ∧ w.heap.size ≤ p ∧ Blk w' p 182 [.int .i64 ns, .int .i64 0])
theorem pace_new (w : World) (ns : Int) (h : 1 ≤ ns ∧ ns ≤ 1000000) : Ret Tryz.prog 51 #[.int .i64 ns] w (PaceNewR ns w) := by
  refine ret_of Tryz.func51 rfl (by kernel_rfl) (Nat.le_of_ble_eq_true (by kernel_rfl)) ?_
  have h1 : ¬ ns < 1 := by omega
  have h2 : ¬ (1000000 : Int) < ns := by omega
  have b1 := build_of (P := Tryz.prog) (T := 182) (parts := #[(0, .int .i64 ns)]) [.int .i64 ns, .int .i64 0] (by kernel_rfl) zer182 (by kernel_rfl) w
  simp (config := {maxSteps := 1000000, implicitDefEqProofs := false}) only [↓zvN, zvU, ↓up_apply, ↓hv_apply, ↓upO_some, ↓upO_none, ↓ev_tmp, ↓ev_const, ↓ev_func, ↓ev_global, init, Nat.reduceEqDiff, Nat.reduceAdd, Nat.reduceMul, Nat.reduceSub, ↓reduceIte, Int.reduceEq, Int.reduceNe, Nat.reduceLeDiff, one, Value.cells, Int.reduceLE, Int.reduceLT, Int.reduceToNat, add_mk, reduceCtorEq, List.mem_range'_1, true_and, and_true, and_false, false_and, Nat.reduceLT, Nat.reduceLeDiff, tyF, h1, h2, b1]
  have hm3 := more_alloc w (.cells #[.int .i64 ns, .int .i64 0] 182)
  exact ⟨hm3, fun _ => ⟨w.heap.size, rfl, Nat.le_refl _, Blk.new _ _ _⟩⟩
/-- a class's turn: awake, fresh, deficit -/
structure TurnM where
  awake : Bool
  fresh : Bool
  deficit : Int
def TurnM.cells (x : TurnM) : List Value := [.bool x.awake, .bool x.fresh, .int .i64 x.deficit]
theorem TurnM.cells_len (x : TurnM) : x.cells.length = 3 := rfl
theorem intE : ElemT Tryz.prog 3 (.int .i64 0) 1 8 := by unfold ElemT; kernel_rfl
theorem turnE : ElemT Tryz.prog 275 (.agg (TurnM.mk false false 0).cells.toArray) 3 16 := by unfold ElemT; kernel_rfl
/-- a slice that was made amid a region -/
def MadeF (B e n c : Nat) (cs : List Value) (v : Value) (w : World) : Prop := ∃ q, v = .slice (some ⟨q, 0, none⟩) n c ∧ B ≤ q ∧ Blk w q e cs
theorem keepsM (B e n c : Nat) (cs : List Value) (v : Value) (a b : World) (h : More a b) (k : MadeF B e n c cs v a) : MadeF B e n c cs v b := by
  obtain ⟨q, h1, h2, h3⟩ := k
  exact ⟨q, h1, h2, h3.more h⟩
theorem blk_ty {w : World} {q e e' : Nat} {cs cs' : List Value} (h : Blk w q e cs) (h' : Blk w q e' cs') : e = e' := by
  unfold Blk at h h'
  rw [h] at h'
  injection h' with h'
  injection h' with _ h' _
def TurnsNewR (n q : Int) (w : World) (v : Value) (w' : World) : Prop := More w w' ∧
    ((1 ≤ n ∧ n ≤ 129) ∧ (1 ≤ q ∧ q ≤ 1073741824) → ∃ (b c p k : Nat), v = .tuple #[.pointer (some ⟨p, 0, none⟩), .int .i64 0] ∧ (k : Int) = n ∧ w.heap.size ≤ b ∧ w.heap.size ≤ c ∧ b ≠ c ∧ b < p ∧ c < p ∧
      Blk w' b 275 ((List.replicate k (TurnM.mk false false 0)).flatMap TurnM.cells) ∧ Blk w' c 3 (ints (List.replicate k 0)) ∧
      Blk w' p 258 [.int .i64 q, .slice (some ⟨b, 0, none⟩) k k, .slice (some ⟨c, 0, none⟩) 0 k])
theorem turns_new (w : World) (n q : Int) (h : (1 ≤ n ∧ n ≤ 129) ∧ (1 ≤ q ∧ q ≤ 1073741824)) : Ret Tryz.prog 94 #[.int .i64 n, .int .i64 q] w (TurnsNewR n q w) := by
  refine ret_of Tryz.func94 rfl (by kernel_rfl) (Nat.le_of_ble_eq_true (by kernel_rfl)) ?_
  have h1 : ¬ n < 1 := by omega
  have h2 : ¬ (129 : Int) < n := by omega
  have h3 : ¬ q < 1 := by omega
  have h4 : ¬ (1073741824 : Int) < q := by omega
  obtain ⟨k, rfl⟩ := Int.eq_ofNat_of_zero_le (show 0 ≤ n by omega)
  simp (config := {maxSteps := 1000000, implicitDefEqProofs := false}) only [↓zvN, zvU, ↓up_apply, ↓hv_apply, ↓upO_some, ↓upO_none, ↓ev_tmp, ↓ev_const, ↓ev_func, ↓ev_global, init, Nat.reduceEqDiff, Nat.reduceAdd, Nat.reduceMul, Nat.reduceSub, ↓reduceIte, Int.reduceEq, Int.reduceNe, Nat.reduceLeDiff, one, Value.cells, Int.reduceLE, Int.reduceLT, Int.reduceToNat, add_mk, reduceCtorEq, List.mem_range'_1, true_and, and_true, and_false, false_and, Nat.reduceLT, Nat.reduceLeDiff, tyF, h1, h2, h3, h4]
  refine draw_seen 5 [[], [], [1], [], [3], [0, 1, 2, 3, 4], [0, 1, 2, 3, 4, 5], [0, 1, 2, 3, 4, 5, 6], [0, 1, 2, 3, 4, 5, 6, 7]] (RV.look [(2, MadeF w.heap.size 275 k k ((List.replicate k (TurnM.mk false false 0)).flatMap TurnM.cells)), (4, MadeF w.heap.size 3 0 k (ints (List.replicate k 0)))]) mixed (by kernel_rfl) (by kernel_rfl) (look_keeps _ (by
    intro z hz
    simp only [List.mem_cons, List.not_mem_nil, or_false] at hz
    rcases hz with rfl | rfl
    · exact keepsM _ _ _ _ _
    · exact keepsM _ _ _ _ _)) ?_
  simp (config := {maxSteps := 1000000, implicitDefEqProofs := false}) only [↓zvN, zvU, ↓zqD, ↓up_apply, ↓hv_apply, ↓upO_some, ↓upO_none, ↓ev_tmp, ↓ev_const, ↓ev_func, ↓ev_global, init, Nat.reduceEqDiff, Nat.reduceAdd, Nat.reduceMul, Nat.reduceSub, ↓reduceIte, Int.reduceEq, Int.reduceNe, Nat.reduceLeDiff, one, Value.cells, Int.reduceLE, Int.reduceLT, Int.reduceToNat, add_mk, reduceCtorEq, List.mem_range'_1, true_and, and_true, and_false, false_and, Nat.reduceLT, Nat.reduceLeDiff, tyF]
  refine ⟨fun w1 hm1 => ?_, ?_⟩
  · refine mk_slice Tryz.underlying256 turnE (by omega) (by simp only [maxLen]; omega) ?_
    have hb := Blk.new w1 275 (madeCells (TurnM.mk false false 0).cells.toArray (k * 3))
    rw [made_row (TurnM.mk false false 0) (TurnM.cells_len _) (by omega) _ rfl k] at hb
    simp (config := {maxSteps := 1000000, implicitDefEqProofs := false}) only [↓zvN, zvU, ↓zqD, ↓up_apply, ↓hv_apply, ↓upO_some, ↓upO_none, ↓ev_tmp, ↓ev_const, ↓ev_func, ↓ev_global, init, Nat.reduceEqDiff, Nat.reduceAdd, Nat.reduceMul, Nat.reduceSub, ↓reduceIte, Int.reduceEq, Int.reduceNe, Nat.reduceLeDiff, one, Value.cells, Int.reduceLE, Int.reduceLT, Int.reduceToNat, add_mk, reduceCtorEq, List.mem_range'_1, true_and, and_true, and_false, false_and, Nat.reduceLT, Nat.reduceLeDiff, tyF]
    exact ⟨more_alloc _ _, _, rfl, hm1.size, hb⟩
  rintro _ ⟨w1, hm1, b, rfl, hb, hbb⟩
  simp (config := {maxSteps := 1000000, implicitDefEqProofs := false}) only [↓zvN, zvU, ↓zqD, ↓up_apply, ↓hv_apply, ↓upO_some, ↓upO_none, ↓ev_tmp, ↓ev_const, ↓ev_func, ↓ev_global, init, Nat.reduceEqDiff, Nat.reduceAdd, Nat.reduceMul, Nat.reduceSub, ↓reduceIte, Int.reduceEq, Int.reduceNe, Nat.reduceLeDiff, one, Value.cells, Int.reduceLE, Int.reduceLT, Int.reduceToNat, add_mk, reduceCtorEq, List.mem_range'_1, true_and, and_true, and_false, false_and, Nat.reduceLT, Nat.reduceLeDiff, tyF]
  refine ⟨fun w2 hm2 => ?_, ?_⟩
  · refine mk_slice2 (n := 0) Tryz.underlying187 intE (by omega) (by simp only [maxLen]; omega) (by omega) ?_
    have hb := Blk.new w2 3 (madeCells #[Value.int .i64 0] k)
    rw [made_ints1] at hb
    simp (config := {maxSteps := 1000000, implicitDefEqProofs := false}) only [↓zvN, zvU, ↓zqD, ↓up_apply, ↓hv_apply, ↓upO_some, ↓upO_none, ↓ev_tmp, ↓ev_const, ↓ev_func, ↓ev_global, init, Nat.reduceEqDiff, Nat.reduceAdd, Nat.reduceMul, Nat.reduceSub, ↓reduceIte, Int.reduceEq, Int.reduceNe, Nat.reduceLeDiff, one, Value.cells, Int.reduceLE, Int.reduceLT, Int.reduceToNat, add_mk, reduceCtorEq, List.mem_range'_1, true_and, and_true, and_false, false_and, Nat.reduceLT, Nat.reduceLeDiff, tyF]
    exact ⟨more_alloc _ _, _, rfl, hm2.size, hb⟩
  rintro _ ⟨w2, hm2, hF, c, rfl, hc, hcc⟩
  simp (config := {maxSteps := 1000000, implicitDefEqProofs := false}) only [↓zvN, zvU, ↓zqD, ↓up_apply, ↓hv_apply, ↓upO_some, ↓upO_none, ↓ev_tmp, ↓ev_const, ↓ev_func, ↓ev_global, init, Nat.reduceEqDiff, Nat.reduceAdd, Nat.reduceMul, Nat.reduceSub, ↓reduceIte, Int.reduceEq, Int.reduceNe, Nat.reduceLeDiff, one, Value.cells, Int.reduceLE, Int.reduceLT, Int.reduceToNat, add_mk, reduceCtorEq, List.mem_range'_1, true_and, and_true, and_false, false_and, Nat.reduceLT, Nat.reduceLeDiff, tyF]
  rintro w3 hm3 ⟨⟨b', e1, _, hB⟩, c', e2, _, hC⟩
  cases e1
  cases e2
  have hbc : b ≠ c := by
    rintro rfl
    exact absurd (blk_ty hB hC) (by decide)
  have hbl := hB.lt
  have hcl := hC.lt
  have b1 := build_of (P := Tryz.prog) (T := 258) (parts := #[(0, .int .i64 q), (1, .slice (some ⟨b, 0, none⟩) k k), (2, .slice (some ⟨c, 0, none⟩) 0 k)]) [.int .i64 q, .slice (some ⟨b, 0, none⟩) k k, .slice (some ⟨c, 0, none⟩) 0 k] (by kernel_rfl) zer258 (by kernel_rfl) w3
  rw [b1]
  simp (config := {maxSteps := 1000000, implicitDefEqProofs := false}) only [↓zvN, zvU, ↓up_apply, ↓hv_apply, ↓upO_some, ↓upO_none, ↓ev_tmp, ↓ev_const, ↓ev_func, ↓ev_global, init, Nat.reduceEqDiff, Nat.reduceAdd, Nat.reduceMul, Nat.reduceSub, ↓reduceIte, Int.reduceEq, Int.reduceNe, Nat.reduceLeDiff, one, Value.cells, Int.reduceLE, Int.reduceLT, Int.reduceToNat, add_mk, reduceCtorEq, List.mem_range'_1, true_and, and_true, and_false, false_and, Nat.reduceLT, Nat.reduceLeDiff, tyF, p_nil]
  have hm4 := more_alloc w3 (.cells #[.int .i64 q, .slice (some ⟨b, 0, none⟩) k k, .slice (some ⟨c, 0, none⟩) 0 k] 258)
  exact ⟨hm3.trans hm4, fun _ => ⟨b, c, w3.heap.size, k, rfl, rfl, hb, hc, hbc, hbl, hcl, hB.more hm4, hC.more hm4, Blk.new _ _ _⟩⟩
end Go.Proofs.YtahcaplhdgphcaaGreat
