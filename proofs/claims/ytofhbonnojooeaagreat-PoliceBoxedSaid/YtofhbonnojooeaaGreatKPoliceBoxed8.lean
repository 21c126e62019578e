/-
  Texts that the law stands on, part 8.
-/
import Derived.Test.YtofhbonnojooeaaGreatKPoliceBoxed7
namespace Go.Proofs.YtofhbonnojooeaaGreat
open Go Go.RowKit Go.Proofs.RV
set_option linter.unusedSimpArgs false
set_option linter.unusedVariables false
set_option maxRecDepth 10000
set_option maxHeartbeats 4000000
structure GensM where
  buckets : Int
  k0 : List UInt8
  k1 : List UInt8
  old : Int
  moving : Bool
  moved : Int
  epoch : Int
def GensM.cells (g : GensM) : List Value := .int .i64 g.buckets :: (g.k0.map byteV ++ (g.k1.map byteV ++ [.int .i64 g.old, .bool g.moving, .int .i64 g.moved, .int .i64 g.epoch]))
def gensZ : GensM := ⟨0, noBytes 16, noBytes 16, 0, false, 0, 0⟩
theorem zerGens : zer Tryz.prog 220 = some (.agg gensZ.cells.toArray) := by rw [zer220]; rfl
theorem zerKeys : zer Tryz.prog 71 = some (.agg ((noBytes 16).map byteV ++ (noBytes 16).map byteV).toArray) := by rw [zer71]; rfl
theorem keys_build (key : List UInt8) (hk : key.length = 16) (w0 : World) (K : Value → Prop) : pureP Tryz.prog (Instr.build 71 #[(0, .agg (key.map byteV).toArray)]) K = K (.agg (key.map byteV ++ (noBytes 16).map byteV).toArray) := by
  refine build_arrE (s := 16) Tryz.underlying71 cells24 (by decide) zerKeys ?_ w0 K
  refine laid_step (a := []) (b := (noBytes 16).map byteV) (c := (noBytes 16).map byteV) (vs := key.map byteV) rfl rfl rfl (by simp [hk, noBytes]) ?_
  rfl
theorem gens_build (n : Int) (key : List UInt8) (hk : key.length = 16) (w0 : World) (K : Value → Prop) : pureP Tryz.prog (Instr.build 220 #[(0, .int .i64 n), (1, .agg (key.map byteV ++ (noBytes 16).map byteV).toArray)]) K = K (.agg (GensM.mk n key (noBytes 16) 0 false 0 0).cells.toArray) := by
  refine build_of (P := Tryz.prog) (T := 220) _ (by kernel_rfl) zerGens ?_ w0 K
  refine laid_step (a := []) (b := [.int .i64 0]) (c := (noBytes 16).map byteV ++ ((noBytes 16).map byteV ++ [.int .i64 0, .bool false, .int .i64 0, .int .i64 0])) (vs := [.int .i64 n]) rfl rfl (by kernel_rfl) rfl ?_
  refine laid_step (a := [.int .i64 n]) (b := (noBytes 16).map byteV ++ (noBytes 16).map byteV) (c := [.int .i64 0, .bool false, .int .i64 0, .int .i64 0]) (vs := key.map byteV ++ (noBytes 16).map byteV) rfl (by simp) (by kernel_rfl) (by simp [hk, noBytes]) ?_
  simp [laid, GensM.cells]
def GensNewR (n : Int) (key : List UInt8) (w : World) (v : Value) (w' : World) : Prop := More w w' ∧
    (1 ≤ n ∧ n ≤ 64 → ∃ p, v = .tuple #[.pointer (some ⟨p, 0, none⟩), .int .i64 0] ∧ w.heap.size ≤ p ∧ Blk w' p 220 (GensM.mk n key (noBytes 16) 0 false 0 0).cells) ∧
    (¬ (1 ≤ n ∧ n ≤ 64) → v = .tuple #[.pointer none, .int .i64 1])
theorem gens_new (w : World) (n : Int) (key : List UInt8) (hk : key.length = 16) : Ret Tryz.prog 47 #[.int .i64 n, .agg (key.map byteV).toArray] w (GensNewR n key w) := by
  refine ret_of Tryz.func47 rfl (by kernel_rfl) (Nat.le_of_ble_eq_true (by kernel_rfl)) ?_
  simp -implicitDefEqProofs (maxSteps := 1000000) only [↓zvN, zvU, ↓zvE, zvM, init, one, Value.cells, simprocAttr, tyF]
  have hm1 := more_alloc w (.cells (key.map byteV).toArray 24)
  have hb1 := Blk.new w 24 (key.map byteV).toArray
  obtain ⟨w1, hw1⟩ : ∃ w1, w.alloc (.cells (key.map byteV).toArray 24) = w1 := ⟨_, rfl⟩
  rw [hw1] at hm1 hb1 ⊢
  clear hw1
  rw [List.toList_toArray] at hb1
  refine ⟨fun h => ⟨hm1, fun ho => absurd ho.1 (by omega), fun _ => rfl⟩, fun h1 => ?_⟩
  refine ⟨fun h => ⟨hm1, fun ho => absurd ho.2 (by omega), fun _ => rfl⟩, fun h2 => ?_⟩
  have k1 := hb1.all_eq 16 (by simp [hk])
  simp -implicitDefEqProofs (maxSteps := 1000000) only [↓zvN, zvU, ↓zvE, zvM, init, one, Value.cells, simprocAttr, tyF, k1]
  have b1 := keys_build key hk w1
  have b2 := gens_build n key hk w1
  rw [b1]
  simp -implicitDefEqProofs (maxSteps := 1000000) only [↓zvN, zvU, ↓zvE, zvM, init, one, Value.cells, simprocAttr, tyF]
  rw [b2]
  simp -implicitDefEqProofs (maxSteps := 1000000) only [↓zvN, zvU, ↓zvE, zvM, init, one, Value.cells, simprocAttr, tyF]
  have hm2 := more_alloc w1 (.cells (GensM.mk n key (noBytes 16) 0 false 0 0).cells.toArray 220)
  exact ⟨hm1.trans hm2, fun _ => ⟨w1.heap.size, rfl, hm1.size, by simpa using Blk.new w1 220 (GensM.mk n key (noBytes 16) 0 false 0 0).cells.toArray⟩, fun hn => absurd ⟨by omega, by omega⟩ hn⟩
def QuotaNewR (n r s : Int) (w : World) (v : Value) (w' : World) : Prop := More w w' ∧
    ((1 ≤ n ∧ n ≤ 129) ∧ (0 ≤ r ∧ r ≤ 1073741824) ∧ (0 ≤ s ∧ s ≤ 1073741824) → ∃ (q p k : Nat), v = .tuple #[.pointer (some ⟨p, 0, none⟩), .int .i64 0] ∧ (k : Int) = n ∧ w.heap.size ≤ q ∧ q < p ∧ Blk w' q 2 (ints (List.replicate k 0)) ∧
      Blk w' p 230 [.int .i64 r, .int .i64 s, .int .i64 0, .slice (some ⟨q, 0, none⟩) k k])
theorem made_ints (k : Nat) : (madeCells (Value.int .i64 0).cells (k * 1)).toList = ints (List.replicate k 0) := by
  have := made_row (E := fun n : Int => [Value.int .i64 n]) (s := 1) (0 : Int) rfl (by decide) (Value.int .i64 0).cells rfl k
  rw [this]
  simp [ints, List.flatMap_replicate]
theorem made_ints1 (k : Nat) : (madeCells #[Value.int .i64 0] k).toList = ints (List.replicate k 0) := by
  have := made_ints k
  rwa [Nat.mul_one] at this
theorem quota_new (w : World) (n r s : Int) (h : (1 ≤ n ∧ n ≤ 129) ∧ (0 ≤ r ∧ r ≤ 1073741824) ∧ (0 ≤ s ∧ s ≤ 1073741824)) : Ret Tryz.prog 49 #[.int .i64 n, .int .i64 r, .int .i64 s] w (QuotaNewR n r s w) := by
  refine ret_of Tryz.func49 rfl (by kernel_rfl) (Nat.le_of_ble_eq_true (by kernel_rfl)) ?_
  have h1 : ¬ n < 1 := by omega
  have h2 : ¬ (129 : Int) < n := by omega
  have h3 : ¬ r < 0 := by omega
  have h4 : ¬ (1073741824 : Int) < r := by omega
  have h5 : ¬ s < 0 := by omega
  have h6 : ¬ (1073741824 : Int) < s := by omega
  obtain ⟨k, rfl⟩ := Int.eq_ofNat_of_zero_le (show 0 ≤ n by omega)
  simp -implicitDefEqProofs (maxSteps := 1000000) only [↓zvN, zvU, ↓zvE, zvM, init, one, Value.cells, simprocAttr, tyF, h1, h2, h3, h4, h5, h6]
  refine mk_slice Tryz.underlying77 int64E (by omega) (by simp only [maxLen]; omega) ?_
  have hm2 := more_alloc w (.cells (madeCells (Value.int .i64 0).cells (k * 1)) 2)
  have hb2 := Blk.new w 2 (madeCells (Value.int .i64 0).cells (k * 1))
  have s2 := size_alloc w (.cells (madeCells (Value.int .i64 0).cells (k * 1)) 2)
  obtain ⟨w2, hw2⟩ : ∃ w2, w.alloc (.cells (madeCells (Value.int .i64 0).cells (k * 1)) 2) = w2 := ⟨_, rfl⟩
  rw [hw2] at hm2 hb2 s2 ⊢
  clear hw2
  rw [made_ints] at hb2
  obtain ⟨q, hq⟩ : ∃ q, w.heap.size = q := ⟨_, rfl⟩
  rw [hq] at hb2 s2 ⊢
  have b1 := build_of (P := Tryz.prog) (T := 230) (parts := #[(0, .int .i64 r), (1, .int .i64 s), (3, .slice (some ⟨q, 0, none⟩) k k)]) [.int .i64 r, .int .i64 s, .int .i64 0, .slice (some ⟨q, 0, none⟩) k k] (by kernel_rfl) zer230 (by kernel_rfl) w2
  simp -implicitDefEqProofs (maxSteps := 1000000) only [↓zvN, zvU, ↓zvE, zvM, init, one, Value.cells, simprocAttr, tyF, b1]
  have hm3 := more_alloc w2 (.cells #[.int .i64 r, .int .i64 s, .int .i64 0, .slice (some ⟨q, 0, none⟩) k k] 230)
  exact ⟨hm2.trans hm3, fun _ => ⟨q, w2.heap.size, k, rfl, rfl, by omega, by omega, hb2.more hm3, Blk.new _ _ _⟩⟩
structure TurnM where
  awake : Bool
  fresh : Bool
  deficit : Int
def TurnM.cells (x : TurnM) : List Value := [.bool x.awake, .bool x.fresh, .int .i64 x.deficit]
theorem TurnM.cells_len (x : TurnM) : x.cells.length = 3 := rfl
theorem intE : ElemT Tryz.prog 3 (.int .i64 0) 1 8 := by unfold ElemT; kernel_rfl
theorem turnE : ElemT Tryz.prog 272 (.agg (TurnM.mk false false 0).cells.toArray) 3 16 := by unfold ElemT; kernel_rfl
def MadeF (B e n c : Nat) (cs : List Value) (v : Value) (w : World) : Prop := ∃ q, v = .slice (some ⟨q, 0, none⟩) n c ∧ B ≤ q ∧ Blk w q e cs
theorem keepsM (B e n c : Nat) (cs : List Value) (v : Value) (a b : World) (h : More a b) (k : MadeF B e n c cs v a) : MadeF B e n c cs v b := by
  obtain ⟨q, h1, h2, h3⟩ := k
  exact ⟨q, h1, h2, h3.more h⟩
theorem blk_ty {w : World} {q e e' : Nat} {cs cs' : List Value} (h : Blk w q e cs) (h' : Blk w q e' cs') : e = e' := by
  unfold Blk at h h'
  rw [h] at h'
  injection h' with h'
  injection h' with _ h' _
def TurnsNewR (n q : Int) (w : World) (v : Value) (w' : World) : Prop := More w w' ∧
    ((1 ≤ n ∧ n ≤ 129) ∧ (1 ≤ q ∧ q ≤ 1073741824) → ∃ (b c p k : Nat), v = .tuple #[.pointer (some ⟨p, 0, none⟩), .int .i64 0] ∧ (k : Int) = n ∧ w.heap.size ≤ b ∧ w.heap.size ≤ c ∧ b ≠ c ∧ b < p ∧ c < p ∧
      Blk w' b 272 ((List.replicate k (TurnM.mk false false 0)).flatMap TurnM.cells) ∧ Blk w' c 3 (ints (List.replicate k 0)) ∧
      Blk w' p 233 [.int .i64 q, .slice (some ⟨b, 0, none⟩) k k, .slice (some ⟨c, 0, none⟩) 0 k])
theorem turns_new (w : World) (n q : Int) (h : (1 ≤ n ∧ n ≤ 129) ∧ (1 ≤ q ∧ q ≤ 1073741824)) : Ret Tryz.prog 50 #[.int .i64 n, .int .i64 q] w (TurnsNewR n q w) := by
  refine ret_of Tryz.func50 rfl (by kernel_rfl) (Nat.le_of_ble_eq_true (by kernel_rfl)) ?_
  have h1 : ¬ n < 1 := by omega
  have h2 : ¬ (129 : Int) < n := by omega
  have h3 : ¬ q < 1 := by omega
  have h4 : ¬ (1073741824 : Int) < q := by omega
  obtain ⟨k, rfl⟩ := Int.eq_ofNat_of_zero_le (show 0 ≤ n by omega)
  simp -implicitDefEqProofs (maxSteps := 1000000) only [↓zvN, zvU, ↓zvE, zvM, init, one, Value.cells, simprocAttr, tyF, h1, h2, h3, h4]
  refine draw_seen 5 [[], [], [1], [], [3], [0, 1, 2, 3, 4], [0, 1, 2, 3, 4, 5], [0, 1, 2, 3, 4, 5, 6], [0, 1, 2, 3, 4, 5, 6, 7]] (RV.look [(2, MadeF w.heap.size 272 k k ((List.replicate k (TurnM.mk false false 0)).flatMap TurnM.cells)), (4, MadeF w.heap.size 3 0 k (ints (List.replicate k 0)))]) mixed (by kernel_rfl) (by kernel_rfl) (look_keeps _ (by
    intro z hz
    simp only [List.mem_cons, List.not_mem_nil, or_false] at hz
    rcases hz with rfl | rfl
    · exact keepsM _ _ _ _ _
    · exact keepsM _ _ _ _ _)) ?_
  simp -implicitDefEqProofs (maxSteps := 1000000) only [↓zvN, zvU, ↓zqD, ↓zvE, zvM, init, one, Value.cells, simprocAttr, tyF]
  refine ⟨fun w1 hm1 => ?_, ?_⟩
  · refine mk_slice Tryz.underlying231 turnE (by omega) (by simp only [maxLen]; omega) ?_
    have hb := Blk.new w1 272 (madeCells (TurnM.mk false false 0).cells.toArray (k * 3))
    rw [made_row (TurnM.mk false false 0) (TurnM.cells_len _) (by omega) _ rfl k] at hb
    simp -implicitDefEqProofs (maxSteps := 1000000) only [↓zvN, zvU, ↓zqD, ↓zvE, zvM, init, one, Value.cells, simprocAttr, tyF]
    exact ⟨more_alloc _ _, _, rfl, hm1.size, hb⟩
  rintro _ ⟨w1, hm1, b, rfl, hb, hbb⟩
  simp -implicitDefEqProofs (maxSteps := 1000000) only [↓zvN, zvU, ↓zqD, ↓zvE, zvM, init, one, Value.cells, simprocAttr, tyF]
  refine ⟨fun w2 hm2 => ?_, ?_⟩
  · refine mk_slice2 (n := 0) Tryz.underlying157 intE (by omega) (by simp only [maxLen]; omega) (by omega) ?_
    have hb := Blk.new w2 3 (madeCells #[Value.int .i64 0] k)
    rw [made_ints1] at hb
    simp -implicitDefEqProofs (maxSteps := 1000000) only [↓zvN, zvU, ↓zqD, ↓zvE, zvM, init, one, Value.cells, simprocAttr, tyF]
    exact ⟨more_alloc _ _, _, rfl, hm2.size, hb⟩
  rintro _ ⟨w2, hm2, hF, c, rfl, hc, hcc⟩
  simp -implicitDefEqProofs (maxSteps := 1000000) only [↓zvN, zvU, ↓zqD, ↓zvE, zvM, init, one, Value.cells, simprocAttr, tyF]
  rintro w3 hm3 ⟨⟨b', e1, _, hB⟩, c', e2, _, hC⟩
  cases e1
  cases e2
  have hbc : b ≠ c := by
    rintro rfl
    exact absurd (blk_ty hB hC) (by decide)
  have hbl := hB.lt
  have hcl := hC.lt
  have b1 := build_of (P := Tryz.prog) (T := 233) (parts := #[(0, .int .i64 q), (1, .slice (some ⟨b, 0, none⟩) k k), (2, .slice (some ⟨c, 0, none⟩) 0 k)]) [.int .i64 q, .slice (some ⟨b, 0, none⟩) k k, .slice (some ⟨c, 0, none⟩) 0 k] (by kernel_rfl) zer233 (by kernel_rfl) w3
  rw [b1]
  simp -implicitDefEqProofs (maxSteps := 1000000) only [↓zvN, zvU, ↓zvE, zvM, init, one, Value.cells, simprocAttr, tyF, p_nil]
  have hm4 := more_alloc w3 (.cells #[.int .i64 q, .slice (some ⟨b, 0, none⟩) k k, .slice (some ⟨c, 0, none⟩) 0 k] 233)
  exact ⟨hm3.trans hm4, fun _ => ⟨b, c, w3.heap.size, k, rfl, rfl, hb, hc, hbc, hbl, hcl, hB.more hm4, hC.more hm4, Blk.new _ _ _⟩⟩
structure LineM where
  first : Int
  last : Int
  n : Int
def LineM.cells (x : LineM) : List Value := [.int .i64 x.first, .int .i64 x.last, .int .i64 x.n]
theorem LineM.cells_len (x : LineM) : x.cells.length = 3 := rfl
theorem LineM.one (x : LineM) : ∀ u ∈ x.cells, u.oneCell' = true := by intro u hu; simp [LineM.cells] at hu; rcases hu with rfl | rfl | rfl <;> rfl
theorem lineE : ElemT Tryz.prog 325 (.agg (LineM.mk 0 0 0).cells.toArray) 3 24 := by unfold ElemT; kernel_rfl
structure LinkM where
  line : Int
  next : Int
def LinkM.cells (x : LinkM) : List Value := [.int .i64 x.line, .int .i64 x.next]
theorem LinkM.cells_len (x : LinkM) : x.cells.length = 2 := rfl
theorem LinkM.one (x : LinkM) : ∀ u ∈ x.cells, u.oneCell' = true := by intro u hu; simp [LinkM.cells] at hu; rcases hu with rfl | rfl <;> rfl
theorem linkE : ElemT Tryz.prog 327 (.agg (LinkM.mk 0 0).cells.toArray) 2 16 := by unfold ElemT; kernel_rfl
theorem mem_allS {M M2 : List Nat} (hs : M2.all (M.contains ·) = true) {s : Nat} (h : s ∈ M2) : s ∈ M := by simpa using List.all_eq_true.1 hs s h
def lineZ : LineM := ⟨-1, -1, 0⟩
def linkZ : LinkM := ⟨-1, -1⟩
theorem set_rep {α : Type} (a b : α) (i k : Nat) (h : i < k) : ((List.replicate i a) ++ List.replicate (k - i) b).set i a = List.replicate (i + 1) a ++ List.replicate (k - (i + 1)) b := by
  rw [List.set_append_right _ _ (by simp), List.length_replicate, Nat.sub_self, show k - i = (k - (i + 1)) + 1 by omega, List.replicate_succ, List.set_cons_zero, List.replicate_succ', List.append_assoc]
  rfl
def ChainsNewR (n m : Int) (w : World) (v : Value) (w' : World) : Prop := More w w' ∧ ∃ (b c p k j : Nat), v = .tuple #[.pointer (some ⟨p, 0, none⟩), .int .i64 0] ∧ (k : Int) = n ∧ (j : Int) = m ∧ w.heap.size ≤ b ∧ w.heap.size ≤ c ∧ w.heap.size ≤ p ∧ b ≠ c ∧ b ≠ p ∧ c ≠ p ∧
      Blk w' b 325 ((List.replicate k lineZ).flatMap LineM.cells) ∧ Blk w' c 327 ((List.replicate j linkZ).flatMap LinkM.cells) ∧
      Blk w' p 323 [.slice (some ⟨b, 0, none⟩) k k, .slice (some ⟨c, 0, none⟩) j j]
def ChL (b c p k j : Nat) (w0 : World) (v34 : Value) (w : World) : Prop := ∃ i : Nat, v34 = .int .i64 i ∧ i ≤ k ∧ More w0 w ∧
    Blk w b 325 ((List.replicate i lineZ ++ List.replicate (k - i) (LineM.mk 0 0 0)).flatMap LineM.cells) ∧ Blk w c 327 ((List.replicate j (LinkM.mk 0 0)).flatMap LinkM.cells) ∧
    Blk w p 323 [.slice (some ⟨b, 0, none⟩) k k, .slice (some ⟨c, 0, none⟩) j j]
def ChP (b c p k j : Nat) (w0 : World) (v50 : Value) (w : World) : Prop := ∃ i : Nat, v50 = .int .i64 i ∧ i ≤ j ∧ More w0 w ∧
    Blk w b 325 ((List.replicate k lineZ).flatMap LineM.cells) ∧ Blk w c 327 ((List.replicate i linkZ ++ List.replicate (j - i) (LinkM.mk 0 0)).flatMap LinkM.cells) ∧
    Blk w p 323 [.slice (some ⟨b, 0, none⟩) k k, .slice (some ⟨c, 0, none⟩) j j]
theorem chain_new (w : World) (n m : Int) (h : (1 ≤ n ∧ n ≤ 129) ∧ (1 ≤ m ∧ m ≤ 4096)) : Ret Tryz.prog 126 #[.int .i64 n, .int .i64 m] w (ChainsNewR n m w) := by
  refine ret_of Tryz.func126 rfl (by kernel_rfl) (Nat.le_of_ble_eq_true (by kernel_rfl)) ?_
  have h1 : ¬ n < 1 := by omega
  have h2 : ¬ (129 : Int) < n := by omega
  have h3 : ¬ m < 1 := by omega
  have h4 : ¬ (4096 : Int) < m := by omega
  obtain ⟨k, rfl⟩ := Int.eq_ofNat_of_zero_le (show 0 ≤ n by omega)
  obtain ⟨j, rfl⟩ := Int.eq_ofNat_of_zero_le (show 0 ≤ m by omega)
  simp -implicitDefEqProofs (maxSteps := 1000000) only [↓zvN, zvU, ↓zvE, zvM, init, one, Value.cells, simprocAttr, tyF, h1, h2, h3, h4]
  refine draw_seen 4 [[], [0], [], [2], [0, 1, 2, 3], [0, 1, 2, 3, 4], [0, 1, 2, 3, 4, 5]] (RV.look [(1, MadeF w.heap.size 325 k k ((List.replicate k (LineM.mk 0 0 0)).flatMap LineM.cells)), (3, MadeF w.heap.size 327 j j ((List.replicate j (LinkM.mk 0 0)).flatMap LinkM.cells))]) mixed (by kernel_rfl) (by kernel_rfl) (look_keeps _ (by
    intro z hz
    simp only [List.mem_cons, List.not_mem_nil, or_false] at hz
    rcases hz with rfl | rfl
    · exact keepsM _ _ _ _ _
    · exact keepsM _ _ _ _ _)) ?_
  simp -implicitDefEqProofs (maxSteps := 1000000) only [↓zvN, zvU, ↓zqD, ↓zvE, zvM, init, one, Value.cells, simprocAttr, tyF]
  refine ⟨fun w1 hm1 => ?_, ?_⟩
  · refine mk_slice Tryz.underlying320 lineE (by omega) (by simp only [maxLen]; omega) ?_
    have hb := Blk.new w1 325 (madeCells (LineM.mk 0 0 0).cells.toArray (k * 3))
    rw [made_row (LineM.mk 0 0 0) (LineM.cells_len _) (by omega) _ rfl k] at hb
    simp -implicitDefEqProofs (maxSteps := 1000000) only [↓zvN, zvU, ↓zqD, ↓zvE, zvM, init, one, Value.cells, simprocAttr, tyF]
    exact ⟨more_alloc _ _, _, rfl, hm1.size, hb⟩
  rintro _ ⟨w1, hm1, b, rfl, hb, hbb⟩
  simp -implicitDefEqProofs (maxSteps := 1000000) only [↓zvN, zvU, ↓zqD, ↓zvE, zvM, init, one, Value.cells, simprocAttr, tyF]
  refine ⟨fun w2 hm2 => ?_, ?_⟩
  · refine mk_slice Tryz.underlying321 linkE (by omega) (by simp only [maxLen]; omega) ?_
    have hb := Blk.new w2 327 (madeCells (LinkM.mk 0 0).cells.toArray (j * 2))
    rw [made_row (LinkM.mk 0 0) (LinkM.cells_len _) (by omega) _ rfl j] at hb
    simp -implicitDefEqProofs (maxSteps := 1000000) only [↓zvN, zvU, ↓zqD, ↓zvE, zvM, init, one, Value.cells, simprocAttr, tyF]
    exact ⟨more_alloc _ _, _, rfl, hm2.size, hb⟩
  rintro _ ⟨w2, hm2, hF, c, rfl, hc, hcc⟩
  simp -implicitDefEqProofs (maxSteps := 1000000) only [↓zvN, zvU, ↓zqD, ↓zvE, zvM, init, one, Value.cells, simprocAttr, tyF]
  rintro w3 hm3 ⟨⟨b', e1, _, hB⟩, c', e2, _, hC⟩
  cases e1
  cases e2
  have hbc : b ≠ c := by
    rintro rfl
    exact absurd (blk_ty hB hC) (by decide)
  have hbl := hB.lt
  have hcl := hC.lt
  have b1 := build_of (P := Tryz.prog) (T := 323) (parts := #[(0, .slice (some ⟨b, 0, none⟩) k k), (1, .slice (some ⟨c, 0, none⟩) j j)]) [.slice (some ⟨b, 0, none⟩) k k, .slice (some ⟨c, 0, none⟩) j j] (by kernel_rfl) zer323 (by kernel_rfl) w3
  rw [b1]
  simp -implicitDefEqProofs (maxSteps := 1000000) only [↓zvN, zvU, ↓zvE, zvM, init, one, Value.cells, simprocAttr, tyF, p_nil]
  have hm4 := more_alloc w3 (.cells #[.slice (some ⟨b, 0, none⟩) k k, .slice (some ⟨c, 0, none⟩) j j] 323)
  have hP4 := Blk.new w3 323 #[.slice (some ⟨b, 0, none⟩) k k, .slice (some ⟨c, 0, none⟩) j j]
  obtain ⟨p, hp⟩ : ∃ p, w3.heap.size = p := ⟨_, rfl⟩
  have hwp : w.heap.size ≤ p := by have := hm3.size; omega
  rw [hp] at hP4 hbl hcl ⊢
  obtain ⟨w4, hw4⟩ : ∃ w4, w3.alloc (.cells #[.slice (some ⟨b, 0, none⟩) k k, .slice (some ⟨c, 0, none⟩) j j] 323) = w4 := ⟨_, rfl⟩
  rw [hw4] at hm4 hP4 ⊢
  clear hw4
  have hB4 := hB.more hm4
  have hC4 := hC.more hm4
  have c0 : ∀ {w' : World}, Blk w' p 323 [.slice (some ⟨b, 0, none⟩) k k, .slice (some ⟨c, 0, none⟩) j j] → w'.cell? ⟨p, 0, none⟩ = some (.slice (some ⟨b, 0, none⟩) k k) ∧ w'.cell? ⟨p, 1, none⟩ = some (.slice (some ⟨c, 0, none⟩) j j) := fun h => ⟨by rw [h.cell]; rfl, by rw [h.cell]; rfl⟩
  simp -implicitDefEqProofs (maxSteps := 1000000) only [↓zvN, zvU, ↓zvE, zvM, init, one, Value.cells, simprocAttr, tyF, p_nil, (c0 hP4).1]
  have bl := fun w5 => build_of (P := Tryz.prog) (T := 325) (parts := #[(0, .int .i64 (-1)), (1, .int .i64 (-1)), (2, .int .i64 0)]) lineZ.cells (by kernel_rfl) zer325 (by kernel_rfl) w5
  have bk := fun w5 => build_of (P := Tryz.prog) (T := 327) (parts := #[(0, .int .i64 (-1)), (1, .int .i64 (-1))]) linkZ.cells (by kernel_rfl) zer327 (by kernel_rfl) w5
  refine loop_p (7 :: List.range' 34 11) (fun e w' => ChL b c p k j w (e 34) w') (fun e _ => k - (numOf (e 34)).toNat) ?_ ?_
  · exact ⟨0, by simp only [hv_apply, up_apply, upO_some, upO_none, init, List.mem_cons, List.mem_range'_1, true_and, and_true, and_false, false_and, Nat.reduceLT, Nat.reduceLeDiff, Nat.reduceAdd, true_or, or_true, if_true, if_false, ↓reduceIte, Nat.reduceEqDiff, false_or, or_false, List.not_mem_nil, List.getElem?_cons_zero, List.getElem?_cons_succ, Option.getD_some] <;> rfl, by omega, hm3.trans hm4, by simpa using hB4, hC4, hP4⟩
  rintro v w5 ⟨i, h34, hi, hm5, hB5, hC5, hP5⟩
  simp only [hv_apply, up_apply, upO_some, upO_none, init, List.mem_cons, List.mem_range'_1, true_and, and_true, and_false, false_and, Nat.reduceLT, Nat.reduceLeDiff, Nat.reduceAdd, true_or, or_true, if_true, if_false, ↓reduceIte, Nat.reduceEqDiff, false_or, or_false, List.not_mem_nil, List.getElem?_cons_zero, List.getElem?_cons_succ, Option.getD_some] at h34
  have ei : IntKind.i64.wrap ((i : Int) + 1) = ((i + 1 : Nat) : Int) := w64 (by omega) (by omega)
  simp -implicitDefEqProofs (maxSteps := 1000000) only [↓zvN, zvU, ↓zvE, zvM, init, one, Value.cells, simprocAttr, tyF, h34]
  refine ⟨fun h9 => ?_, fun h9 => ?_⟩
  · have g0 : (0 : Int) ≤ (i : Int) := by omega
    have bl5 := bl w5
    simp -implicitDefEqProofs (maxSteps := 1000000) only [↓zvN, zvU, ↓zvE, zvM, init, one, Value.cells, simprocAttr, tyF, h34, (c0 hP5).1, bl5, g0, h9, Int.toNat_natCast]
    refine blk_setRow hB5 (fun m _ => LineM.cells_len m) (i := i) (by simp; omega) rfl (LineM.one _) fun w6 k1 k2 => ?_
    rw [s2_undef]
    rw [set_rep _ _ _ _ (by omega)] at k2
    simp -implicitDefEqProofs (maxSteps := 1000000) only [↓zvN, zvU, ↓zvE, zvM, init, one, Value.cells, simprocAttr, tyF, h34, ei]
    refine ⟨⟨?_, i + 1, rfl, by omega, k1.below hm5 hb, k2, k1.blk hC5 (by omega), k1.blk hP5 (by omega)⟩, by simp only [numOf]; omega⟩
    repeat (first | exact Same.hv _ _ _ | refine Same.up (by simp) ?_)
  obtain rfl : i = k := by omega
  rw [Nat.sub_self, List.replicate_zero, List.append_nil] at hB5
  simp -implicitDefEqProofs (maxSteps := 1000000) only [↓zvN, zvU, ↓zvE, zvM, init, one, Value.cells, simprocAttr, tyF, (c0 hP5).2]
  refine loop_p (8 :: List.range' 50 11) (fun e w' => ChP b c p i j w (e 50) w') (fun e _ => j - (numOf (e 50)).toNat) ?_ ?_
  · exact ⟨0, by simp only [hv_apply, up_apply, upO_some, upO_none, init, List.mem_cons, List.mem_range'_1, true_and, and_true, and_false, false_and, Nat.reduceLT, Nat.reduceLeDiff, Nat.reduceAdd, true_or, or_true, if_true, if_false, ↓reduceIte, Nat.reduceEqDiff, false_or, or_false, List.not_mem_nil, List.getElem?_cons_zero, List.getElem?_cons_succ, Option.getD_some] <;> rfl, by omega, hm5, hB5, by simpa using hC5, hP5⟩
  rintro v2 w7 ⟨x, h50, hx, hm7, hB7, hC7, hP7⟩
  simp only [hv_apply, up_apply, upO_some, upO_none, init, List.mem_cons, List.mem_range'_1, true_and, and_true, and_false, false_and, Nat.reduceLT, Nat.reduceLeDiff, Nat.reduceAdd, true_or, or_true, if_true, if_false, ↓reduceIte, Nat.reduceEqDiff, false_or, or_false, List.not_mem_nil, List.getElem?_cons_zero, List.getElem?_cons_succ, Option.getD_some] at h50
  have ex : IntKind.i64.wrap ((x : Int) + 1) = ((x + 1 : Nat) : Int) := w64 (by omega) (by omega)
  simp -implicitDefEqProofs (maxSteps := 1000000) only [↓zvN, zvU, ↓zvE, zvM, init, one, Value.cells, simprocAttr, tyF, h50]
  refine ⟨fun h9 => ?_, fun h9 => ?_⟩
  · have g0 : (0 : Int) ≤ (x : Int) := by omega
    have bk7 := bk w7
    simp -implicitDefEqProofs (maxSteps := 1000000) only [↓zvN, zvU, ↓zvE, zvM, init, one, Value.cells, simprocAttr, tyF, h50, (c0 hP7).2, bk7, g0, h9, Int.toNat_natCast]
    refine blk_setRow hC7 (fun m _ => LinkM.cells_len m) (i := x) (by simp; omega) rfl (LinkM.one _) fun w8 k1 k2 => ?_
    rw [s2_undef]
    rw [set_rep _ _ _ _ (by omega)] at k2
    simp -implicitDefEqProofs (maxSteps := 1000000) only [↓zvN, zvU, ↓zvE, zvM, init, one, Value.cells, simprocAttr, tyF, h50, ex]
    refine ⟨⟨?_, x + 1, rfl, by omega, k1.below hm7 hc, k1.blk hB7 (by omega), k2, k1.blk hP7 (by omega)⟩, by simp only [numOf]; omega⟩
    repeat (first | exact Same.hv _ _ _ | refine Same.hv2 (fun s hs => mem_allS (by decide) hs) ?_ | refine Same.up (by simp) ?_)
  obtain rfl : x = j := by omega
  rw [Nat.sub_self, List.replicate_zero, List.append_nil] at hC7
  try simp -implicitDefEqProofs (maxSteps := 1000000) only [↓zvN, zvU, ↓zvE, zvM, init, one, Value.cells, simprocAttr, tyF]
  exact ⟨hm7, b, c, p, i, x, rfl, rfl, rfl, hb, hc, hwp, hbc, by omega, by omega, hB7, hC7, hP7⟩
structure PlcM where
  x : PackM
  taken : Bool
  next : Int
def PlcM.cells (y : PlcM) : List Value := y.x.cells ++ [.bool y.taken, .int .i64 y.next]
def PlcM.Fit (y : PlcM) : Prop := y.x.flow.Fit ∧ y.x.pref.addr.length = 7
theorem pack_len {p : PackM} (h : p.flow.Fit) (hp : p.pref.addr.length = 7) : p.cells.length = 46 := by simp [PackM.cells, PrefM.cells, FlowM.cells_len h, hp]
theorem PlcM.cells_len {y : PlcM} (h : y.Fit) : y.cells.length = 48 := by simp [PlcM.cells, pack_len h.1 h.2]
theorem PlcM.one (y : PlcM) : ∀ u ∈ y.cells, u.oneCell' = true := by
  intro u hu
  simp only [PlcM.cells, List.mem_append, List.mem_cons, List.not_mem_nil, or_false] at hu
  rcases hu with hu | rfl | rfl
  · exact PackM.one _ u hu
  · rfl
  · rfl
theorem packZ_fit : packZ.flow.Fit ∧ packZ.pref.addr.length = 7 := ⟨flowZ_fit, rfl⟩
def plcZ : PlcM := ⟨packZ, false, 0⟩
theorem plcE : ElemT Tryz.prog 332 (.agg plcZ.cells.toArray) 48 80 := by unfold ElemT; kernel_rfl
def plcs (m : Nat) : List PlcM := (List.range m).map fun i => ⟨packZ, false, if i + 1 = m then -1 else (i : Int) + 1⟩
def SlabNewR (n : Int) (w : World) (v : Value) (w' : World) : Prop := More w w' ∧ ∃ (b p m : Nat), v = .tuple #[.pointer (some ⟨p, 0, none⟩), .int .i64 0] ∧ (m : Int) = n ∧ w.heap.size ≤ b ∧ w.heap.size ≤ p ∧ b ≠ p ∧
      Blk w' b 332 ((plcs m).flatMap PlcM.cells) ∧ Blk w' p 330 [.slice (some ⟨b, 0, none⟩) m m, .int .i64 0, .int .i64 m]
def plcK (m i : Nat) : List PlcM := ((List.range i).map fun x => ⟨packZ, false, (x : Int) + 1⟩) ++ List.replicate (m - i) plcZ
theorem plcK_set (m i : Nat) (h : i < m) : (plcK m i).set i ⟨packZ, false, (i : Int) + 1⟩ = plcK m (i + 1) := by
  unfold plcK
  rw [List.set_append_right _ _ (by simp), List.length_map, List.length_range, Nat.sub_self, show m - i = (m - (i + 1)) + 1 by omega, List.replicate_succ, List.set_cons_zero, List.range_succ, List.map_append, List.append_assoc]
  rfl
theorem plcK_at (m i : Nat) (h : i < m) : (plcK m i)[i]? = some plcZ := by
  unfold plcK
  rw [List.getElem?_append_right (by simp), List.length_map, List.length_range, Nat.sub_self, List.getElem?_replicate, if_pos (by omega)]
theorem plcK_fit (m i : Nat) : ∀ y ∈ plcK m i, y.cells.length = 48 := by
  intro y hy
  unfold plcK at hy
  rw [List.mem_append] at hy
  rcases hy with hy | hy
  · obtain ⟨x, _, rfl⟩ := List.mem_map.1 hy
    exact PlcM.cells_len packZ_fit
  · rw [List.eq_of_mem_replicate hy]
    exact PlcM.cells_len packZ_fit
theorem plcK_end (m : Nat) (h : 0 < m) : (plcK m m).set (m - 1) ⟨packZ, false, -1⟩ = plcs m := by
  unfold plcK plcs
  rw [Nat.sub_self, List.replicate_zero, List.append_nil]
  apply List.ext_getElem?
  intro k
  by_cases e : m - 1 = k
  · subst e
    rw [List.getElem?_set_self (by simp; omega), List.getElem?_map, List.getElem?_range (by omega)]
    simp only [Option.map_some]
    rw [if_pos (by omega)]
  · rw [List.getElem?_set_ne e, List.getElem?_map, List.getElem?_map]
    rcases Nat.lt_or_ge k m with h1 | h1
    · rw [List.getElem?_range h1]
      simp only [Option.map_some]
      rw [if_neg (by omega)]
    · rw [List.getElem?_eq_none (by simpa using h1)]
      rfl
theorem plc_next (y : PlcM) (h : y.Fit) (v : Int) : y.cells.set 47 (.int .i64 v) = (PlcM.mk y.x y.taken v).cells := by
  unfold PlcM.cells
  rw [List.set_append_right _ _ (by rw [pack_len h.1 h.2]; omega), pack_len h.1 h.2]
  rfl
def SlJ (b p m : Nat) (w0 : World) (v22 : Value) (w : World) : Prop := ∃ i : Nat, v22 = .int .i64 i ∧ i ≤ m ∧ More w0 w ∧
    Blk w b 332 ((plcK m i).flatMap PlcM.cells) ∧ Blk w p 330 [.slice (some ⟨b, 0, none⟩) m m, .int .i64 0, .int .i64 m]
theorem slab_new (w : World) (n : Int) (h : 1 ≤ n ∧ n ≤ 4096) : Ret Tryz.prog 127 #[.int .i64 n] w (SlabNewR n w) := by
  refine ret_of Tryz.func127 rfl (by kernel_rfl) (Nat.le_of_ble_eq_true (by kernel_rfl)) ?_
  have h1 : ¬ n < 1 := by omega
  have h2 : ¬ (4096 : Int) < n := by omega
  obtain ⟨m, rfl⟩ := Int.eq_ofNat_of_zero_le (show 0 ≤ n by omega)
  simp -implicitDefEqProofs (maxSteps := 1000000) only [↓zvN, zvU, ↓zvE, zvM, init, one, Value.cells, simprocAttr, tyF, h1, h2]
  refine mk_slice Tryz.underlying328 plcE (by omega) (by simp only [maxLen]; omega) ?_
  have hm2 := more_alloc w (.cells (madeCells plcZ.cells.toArray (m * 48)) 332)
  have hb2 := Blk.new w 332 (madeCells plcZ.cells.toArray (m * 48))
  rw [made_row plcZ (PlcM.cells_len packZ_fit) (by omega) _ rfl m] at hb2
  rw [show (Value.agg plcZ.cells.toArray).cells = plcZ.cells.toArray from rfl]
  obtain ⟨w2, hw2⟩ : ∃ w2, w.alloc (.cells (madeCells plcZ.cells.toArray (m * 48)) 332) = w2 := ⟨_, rfl⟩
  rw [hw2] at hm2 hb2 ⊢
  clear hw2
  obtain ⟨b, hb⟩ : ∃ b, w.heap.size = b := ⟨_, rfl⟩
  rw [hb] at hb2 ⊢
  have b1 := build_of (P := Tryz.prog) (T := 330) (parts := #[(0, .slice (some ⟨b, 0, none⟩) m m), (2, .int .i64 m)]) [.slice (some ⟨b, 0, none⟩) m m, .int .i64 0, .int .i64 m] (by kernel_rfl) zer330 (by kernel_rfl) w2
  simp -implicitDefEqProofs (maxSteps := 1000000) only [↓zvN, zvU, ↓zvE, zvM, init, one, Value.cells, simprocAttr, tyF, b1]
  have hm3 := more_alloc w2 (.cells #[.slice (some ⟨b, 0, none⟩) m m, .int .i64 0, .int .i64 m] 330)
  have hP3 := Blk.new w2 330 #[.slice (some ⟨b, 0, none⟩) m m, .int .i64 0, .int .i64 m]
  have hbl := hb2.lt
  obtain ⟨p, hp⟩ : ∃ p, w2.heap.size = p := ⟨_, rfl⟩
  have hwp : w.heap.size ≤ p := by have := hm2.size; omega
  rw [hp] at hP3 hbl ⊢
  obtain ⟨w3, hw3⟩ : ∃ w3, w2.alloc (.cells #[.slice (some ⟨b, 0, none⟩) m m, .int .i64 0, .int .i64 m] 330) = w3 := ⟨_, rfl⟩
  rw [hw3] at hm3 hP3 ⊢
  clear hw3
  have hB3 := hb2.more hm3
  have c0 : ∀ {w' : World}, Blk w' p 330 [.slice (some ⟨b, 0, none⟩) m m, .int .i64 0, .int .i64 m] → w'.cell? ⟨p, 0, none⟩ = some (.slice (some ⟨b, 0, none⟩) m m) := fun h => by rw [h.cell]; rfl
  simp -implicitDefEqProofs (maxSteps := 1000000) only [↓zvN, zvU, ↓zvE, zvM, init, one, Value.cells, simprocAttr, tyF, c0 hP3]
  refine loop_p (5 :: List.range' 22 13) (fun e w' => SlJ b p m w (e 22) w') (fun e _ => m - (numOf (e 22)).toNat) ?_ ?_
  · exact ⟨0, by simp only [hv_apply, up_apply, upO_some, upO_none, init, List.mem_cons, List.mem_range'_1, true_and, and_true, and_false, false_and, Nat.reduceLT, Nat.reduceLeDiff, Nat.reduceAdd, true_or, or_true, if_true, if_false, ↓reduceIte, Nat.reduceEqDiff, false_or, or_false, List.not_mem_nil, List.getElem?_cons_zero, List.getElem?_cons_succ, Option.getD_some] <;> rfl, by omega, hm2.trans hm3, by simpa [plcK] using hB3, hP3⟩
  rintro v w5 ⟨i, h22, hi, hm5, hB5, hP5⟩
  simp only [hv_apply, up_apply, upO_some, upO_none, init, List.mem_cons, List.mem_range'_1, true_and, and_true, and_false, false_and, Nat.reduceLT, Nat.reduceLeDiff, Nat.reduceAdd, true_or, or_true, if_true, if_false, ↓reduceIte, Nat.reduceEqDiff, false_or, or_false, List.not_mem_nil, List.getElem?_cons_zero, List.getElem?_cons_succ, Option.getD_some] at h22
  have ei : IntKind.i64.wrap ((i : Int) + 1) = ((i : Int) + 1) := w64 (by omega) (by omega)
  simp -implicitDefEqProofs (maxSteps := 1000000) only [↓zvN, zvU, ↓zvE, zvM, init, one, Value.cells, simprocAttr, tyF, h22]
  refine ⟨fun h9 => ?_, fun h9 => ?_⟩
  · have g0 : (0 : Int) ≤ (i : Int) := by omega
    simp -implicitDefEqProofs (maxSteps := 1000000) only [↓zvN, zvU, ↓zvE, zvM, init, one, Value.cells, simprocAttr, tyF, h22, c0 hP5, g0, h9, Int.toNat_natCast, ei]
    refine blk_setElem hB5 (plcK_fit m i) (plcK_at m i (by omega)) (j := 47) (m' := ⟨packZ, false, (i : Int) + 1⟩) (by decide) (plc_next plcZ packZ_fit _) rfl fun w6 k1 k2 => ?_
    rw [s2_undef]
    rw [plcK_set _ _ (by omega)] at k2
    simp -implicitDefEqProofs (maxSteps := 1000000) only [↓zvN, zvU, ↓zvE, zvM, init, one, Value.cells, simprocAttr, tyF, h22, ei]
    refine ⟨⟨?_, i + 1, rfl, by omega, k1.below hm5 (by omega), k2, k1.blk hP5 (by omega)⟩, by simp only [numOf]; omega⟩
    repeat (first | exact Same.hv _ _ _ | refine Same.hv2 (fun s hs => mem_allS (by decide) hs) ?_ | refine Same.up (by simp) ?_)
  obtain rfl : i = m := by omega
  have g1 : IntKind.i64.wrap ((i : Int) - 1) = ((i - 1 : Nat) : Int) := by rw [w64 (by omega) (by omega)]; omega
  have g2 : (0 : Int) ≤ ((i - 1 : Nat) : Int) := by omega
  have g3 : ((i - 1 : Nat) : Int) < (i : Int) := by omega
  obtain ⟨z, hz⟩ := row_nat (plcK i i) (i - 1) (by unfold plcK; simp; omega)
  have hz' : z = ⟨packZ, false, ((i - 1 : Nat) : Int) + 1⟩ := by
    unfold plcK at hz
    rw [Nat.sub_self, List.replicate_zero, List.append_nil, List.getElem?_map, List.getElem?_range (by omega)] at hz
    simpa using hz.symm
  simp -implicitDefEqProofs (maxSteps := 1000000) only [↓zvN, zvU, ↓zvE, zvM, init, one, Value.cells, simprocAttr, tyF, c0 hP5, g1, g2, g3, Int.toNat_natCast]
  refine blk_setElem hB5 (plcK_fit i i) hz (j := 47) (m' := ⟨packZ, false, -1⟩) (by decide) (by rw [hz']; exact plc_next ⟨packZ, false, ((i - 1 : Nat) : Int) + 1⟩ packZ_fit _) rfl fun w6 k1 k2 => ?_
  rw [s2_undef]
  rw [plcK_end _ (by omega)] at k2
  simp -implicitDefEqProofs (maxSteps := 1000000) only [↓zvN, zvU, ↓zvE, zvM, init, one, Value.cells, simprocAttr, tyF]
  exact ⟨k1.below hm5 (by omega), b, p, i, rfl, rfl, by omega, hwp, by omega, k2, k1.blk hP5 (by omega)⟩
structure StoreZ (w : World) (B s sb sp cb cc cp y k m : Nat) : Prop where
  st : Blk w s 228 [.pointer (some ⟨sp, 0, none⟩), .pointer (some ⟨cp, 0, none⟩), .slice (some ⟨y, 0, none⟩) k k]
  bytes : Blk w y 2 (ints (List.replicate k 0))
  slab : Blk w sp 330 [.slice (some ⟨sb, 0, none⟩) m m, .int .i64 0, .int .i64 m]
  places : Blk w sb 332 ((plcs m).flatMap PlcM.cells)
  chains : Blk w cp 323 [.slice (some ⟨cb, 0, none⟩) k k, .slice (some ⟨cc, 0, none⟩) m m]
  lines : Blk w cb 325 ((List.replicate k lineZ).flatMap LineM.cells)
  links : Blk w cc 327 ((List.replicate m linkZ).flatMap LinkM.cells)
  ge : B ≤ s ∧ B ≤ sb ∧ B ≤ sp ∧ B ≤ cb ∧ B ≤ cc ∧ B ≤ cp ∧ B ≤ y
def StoreNewR (n r : Int) (w : World) (v : Value) (w' : World) : Prop := More w w' ∧ ∃ (s sb sp cb cc cp y k m : Nat), v = .tuple #[.pointer (some ⟨s, 0, none⟩), .int .i64 0] ∧ (k : Int) = n ∧ (m : Int) = r ∧ StoreZ w' w.heap.size s sb sp cb cc cp y k m
theorem store_new (w : World) (n r : Int) (h : (1 ≤ n ∧ n ≤ 129) ∧ (1 ≤ r ∧ r ≤ 4096)) : Ret Tryz.prog 48 #[.int .i64 n, .int .i64 r] w (StoreNewR n r w) := by
  refine ret_of Tryz.func48 rfl (by kernel_rfl) (Nat.le_of_ble_eq_true (by kernel_rfl)) ?_
  have h1 : ¬ r < 1 := by omega
  simp -implicitDefEqProofs (maxSteps := 1000000) only [↓zvN, zvU, ↓zvE, zvM, init, one, Value.cells, simprocAttr, tyF, h1]
  rw [if_neg h1]
  refine call_ok Tryz.call126 (chain_new w n r h) ?_
  rintro _ w1 ⟨hm1, cb, cc, cp, k, j, rfl, rfl, rfl, hcb, hcc, hcp, _, _, _, hB1, hC1, hP1⟩
  simp -implicitDefEqProofs (maxSteps := 1000000) only [↓zvN, zvU, ↓zvE, zvM, init, one, Value.cells, simprocAttr, tyF]
  refine call_ok Tryz.call127 (slab_new w1 j h.2) ?_
  rintro _ w2 ⟨hm2, sb, sp, m, rfl, hmj, hsb, hsp, _, hS2, hQ2⟩
  obtain rfl : m = j := by omega
  simp -implicitDefEqProofs (maxSteps := 1000000) only [↓zvN, zvU, ↓zvE, zvM, init, one, Value.cells, simprocAttr, tyF]
  refine mk_slice Tryz.underlying77 int64E (by omega) (by simp only [maxLen]; omega) ?_
  have hm3 := more_alloc w2 (.cells (madeCells (Value.int .i64 0).cells (k * 1)) 2)
  have hb3 := Blk.new w2 2 (madeCells (Value.int .i64 0).cells (k * 1))
  obtain ⟨w3, hw3⟩ : ∃ w3, w2.alloc (.cells (madeCells (Value.int .i64 0).cells (k * 1)) 2) = w3 := ⟨_, rfl⟩
  rw [hw3] at hm3 hb3 ⊢
  clear hw3
  rw [made_ints] at hb3
  have s1 := hm1.size
  have s2 := hm2.size
  obtain ⟨y, hy⟩ : ∃ y, w2.heap.size = y := ⟨_, rfl⟩
  rw [hy] at hb3 s2 ⊢
  have b1 := build_of (P := Tryz.prog) (T := 228) (parts := #[(0, .pointer (some ⟨sp, 0, none⟩)), (1, .pointer (some ⟨cp, 0, none⟩)), (2, .slice (some ⟨y, 0, none⟩) k k)]) [.pointer (some ⟨sp, 0, none⟩), .pointer (some ⟨cp, 0, none⟩), .slice (some ⟨y, 0, none⟩) k k] (by kernel_rfl) zer228 (by kernel_rfl) w3
  simp -implicitDefEqProofs (maxSteps := 1000000) only [↓zvN, zvU, ↓zvE, zvM, init, one, Value.cells, simprocAttr, tyF, b1]
  have hm4 := more_alloc w3 (.cells #[.pointer (some ⟨sp, 0, none⟩), .pointer (some ⟨cp, 0, none⟩), .slice (some ⟨y, 0, none⟩) k k] 228)
  have s3 := hm3.size
  exact ⟨((hm1.trans hm2).trans hm3).trans hm4, w3.heap.size, sb, sp, cb, cc, cp, y, k, m, rfl, rfl, rfl, Blk.new _ _ _, hb3.more hm4, (hQ2.more hm3).more hm4, (hS2.more hm3).more hm4, ((hP1.more hm2).more hm3).more hm4, ((hB1.more hm2).more hm3).more hm4, ((hC1.more hm2).more hm3).more hm4, by omega⟩
def duo (a b k : Nat) : Prop := k = a ∨ k = b
def slabC (sb n : Nat) (first free : Int) : List Value := [.slice (some ⟨sb, 0, none⟩) n n, .int .i64 first, .int .i64 free]
structure SlabW (w : World) (sp sb : Nat) (ps : List PlcM) (first free : Int) : Prop where
  blk : Blk w sp 330 (slabC sb ps.length first free)
  rows : Blk w sb 332 (ps.flatMap PlcM.cells)
  fit : ∀ y ∈ ps, y.Fit
  len : ps.length ≤ 4096
theorem SlabW.ne {w : World} {sp sb : Nat} {ps : List PlcM} {first free : Int} (h : SlabW w sp sb ps first free) : sp ≠ sb := by
  intro e
  have h1 := h.blk
  rw [e] at h1
  exact absurd (blk_ty h1 h.rows) (by decide)
theorem SlabW.lens {w : World} {sp sb : Nat} {ps : List PlcM} {first free : Int} (h : SlabW w sp sb ps first free) : ∀ y ∈ ps, y.cells.length = 48 := fun y hy => PlcM.cells_len (h.fit y hy)
theorem SlabW.more {w w' : World} {sp sb : Nat} {ps : List PlcM} {first free : Int} (h : SlabW w sp sb ps first free) (hm : More w w') : SlabW w' sp sb ps first free := ⟨h.blk.more hm, h.rows.more hm, h.fit, h.len⟩
theorem SlabW.mod {w w' : World} {S : Nat → Prop} {sp sb : Nat} {ps : List PlcM} {first free : Int} (h : SlabW w sp sb ps first free) (hm : Mod S w w') (h1 : ¬ S sp) (h2 : ¬ S sb) : SlabW w' sp sb ps first free := ⟨hm.blk h.blk h1, hm.blk h.rows h2, h.fit, h.len⟩
theorem SlabW.c0 {w : World} {sp sb : Nat} {ps : List PlcM} {first free : Int} (h : SlabW w sp sb ps first free) : w.cell? ⟨sp, 0, none⟩ = some (.slice (some ⟨sb, 0, none⟩) ps.length ps.length) := by rw [h.blk.cell]; rfl
theorem SlabW.c1 {w : World} {sp sb : Nat} {ps : List PlcM} {first free : Int} (h : SlabW w sp sb ps first free) : w.cell? ⟨sp, 1, none⟩ = some (.int .i64 first) := by rw [h.blk.cell]; rfl
theorem SlabW.c2 {w : World} {sp sb : Nat} {ps : List PlcM} {first free : Int} (h : SlabW w sp sb ps first free) : w.cell? ⟨sp, 2, none⟩ = some (.int .i64 free) := by rw [h.blk.cell]; rfl
theorem plc_taken (y : PlcM) (h : y.Fit) : y.cells[46]? = some (.bool y.taken) := by
  unfold PlcM.cells
  rw [List.getElem?_append_right (by rw [pack_len h.1 h.2]; omega), pack_len h.1 h.2]
  rfl
theorem plc_nextAt (y : PlcM) (h : y.Fit) : y.cells[47]? = some (.int .i64 y.next) := by
  unfold PlcM.cells
  rw [List.getElem?_append_right (by rw [pack_len h.1 h.2]; omega), pack_len h.1 h.2]
  rfl
theorem SlabW.taken {w : World} {sp sb : Nat} {ps : List PlcM} {first free : Int} (h : SlabW w sp sb ps first free) {i : Nat} {y : PlcM} (hy : ps[i]? = some y) : w.cell? ⟨sb, i * 48 + 46, none⟩ = some (.bool y.taken) := by
  rw [blk_elemAt h.rows h.lens hy (by decide)]
  exact plc_taken y (h.fit y (List.mem_of_getElem? hy))
theorem SlabW.nextAt {w : World} {sp sb : Nat} {ps : List PlcM} {first free : Int} (h : SlabW w sp sb ps first free) {i : Nat} {y : PlcM} (hy : ps[i]? = some y) : w.cell? ⟨sb, i * 48 + 47, none⟩ = some (.int .i64 y.next) := by
  rw [blk_elemAt h.rows h.lens hy (by decide)]
  exact plc_nextAt y (h.fit y (List.mem_of_getElem? hy))
theorem SlabW.pack {w : World} {sp sb : Nat} {ps : List PlcM} {first free : Int} (h : SlabW w sp sb ps first free) {i : Nat} {y : PlcM} (hy : ps[i]? = some y) (K : Value → Prop) : ldRow 46 ⟨sb, i * 48, none⟩ w K = K (.agg y.x.cells.toArray) := by
  have hf := h.fit y (List.mem_of_getElem? hy)
  have hl : i < ps.length := (List.getElem?_eq_some_iff.1 hy).1
  have hb := row_fits ps h.lens hl
  rw [h.rows.row_eq (i * 48) 46 (by omega)]
  congr 2
  have hc := row_cut ps h.lens i y hy
  have : ((ps.flatMap PlcM.cells).drop (i * 48)).take 46 = (((ps.flatMap PlcM.cells).drop (i * 48)).take 48).take 46 := by rw [List.take_take]; rfl
  rw [this, hc]
  unfold PlcM.cells
  rw [List.take_append_of_le_length (by rw [pack_len hf.1 hf.2]; omega), List.take_of_length_le (by rw [pack_len hf.1 hf.2]; omega)]
theorem slab_free (w : World) (sp sb : Nat) (ps : List PlcM) (first free : Int) (h : SlabW w sp sb ps first free) :
    Ret Tryz.prog 154 #[.pointer (some ⟨sp, 0, none⟩)] w fun v w' => v = .int .i64 free ∧ w' = w := by
  refine ret_of Tryz.func154 rfl (by kernel_rfl) (Nat.le_of_ble_eq_true (by kernel_rfl)) ?_
  simp -implicitDefEqProofs (maxSteps := 1000000) only [↓zvN, zvU, ↓zvE, zvM, init, one, Value.cells, simprocAttr, tyF, h.c2]
theorem slab_has (w : World) (sp sb : Nat) (ps : List PlcM) (first free : Int) (h : SlabW w sp sb ps first free) {i : Nat} {y : PlcM} (hy : ps[i]? = some y) :
    Ret Tryz.prog 217 #[.pointer (some ⟨sp, 0, none⟩), .int .i64 i] w fun v w' => v = .bool y.taken ∧ w' = w := by
  refine ret_of Tryz.func217 rfl (by kernel_rfl) (Nat.le_of_ble_eq_true (by kernel_rfl)) ?_
  have hl : i < ps.length := (List.getElem?_eq_some_iff.1 hy).1
  have g0 : (0 : Int) ≤ (i : Int) := by omega
  have g1 : (i : Int) < (ps.length : Int) := by omega
  simp -implicitDefEqProofs (maxSteps := 1000000) only [↓zvN, zvU, ↓zvE, zvM, init, one, Value.cells, simprocAttr, tyF, h.c0, g0, g1, Int.toNat_natCast, h.taken hy]
theorem slab_get (w : World) (sp sb : Nat) (ps : List PlcM) (first free : Int) (h : SlabW w sp sb ps first free) {i : Nat} {y : PlcM} (hy : ps[i]? = some y) (ht : y.taken = true) :
    Ret Tryz.prog 158 #[.pointer (some ⟨sp, 0, none⟩), .int .i64 i] w fun v w' => v = .tuple #[.agg y.x.cells.toArray, .bool true] ∧ More w w' := by
  refine ret_of Tryz.func158 rfl (by kernel_rfl) (Nat.le_of_ble_eq_true (by kernel_rfl)) ?_
  have hf := h.fit y (List.mem_of_getElem? hy)
  have hl : i < ps.length := (List.getElem?_eq_some_iff.1 hy).1
  have g0 : (0 : Int) ≤ (i : Int) := by omega
  have g1 : (i : Int) < (ps.length : Int) := by omega
  simp -implicitDefEqProofs (maxSteps := 1000000) only [↓zvN, zvU, ↓zvE, zvM, init, one, Value.cells, simprocAttr, tyF, zerPack]
  have hm1 := more_alloc w (.cells packZ.cells.toArray 39)
  have hb1 := Blk.new w 39 packZ.cells.toArray
  obtain ⟨w1, hw1⟩ : ∃ w1, w.alloc (.cells packZ.cells.toArray 39) = w1 := ⟨_, rfl⟩
  rw [hw1] at hm1 hb1 ⊢
  clear hw1
  obtain ⟨z, hz⟩ : ∃ z, w.heap.size = z := ⟨_, rfl⟩
  rw [hz] at hb1 ⊢
  have h1 := h.more hm1
  refine call_ok Tryz.call217 (slab_has w1 sp sb ps first free h1 hy) ?_
  rintro _ _ ⟨rfl, rfl⟩
  rw [ht]
  simp -implicitDefEqProofs (maxSteps := 1000000) only [↓zvN, zvU, ↓zvE, zvM, init, one, Value.cells, simprocAttr, tyF, h1.c0, g0, g1, Int.toNat_natCast, h1.pack hy]
  refine st_all hb1 (by simpa using pack_len hf.1 hf.2) rfl (by simpa using PackM.one y.x) fun w2 k1 k2 => ?_
  rw [s2_undef]
  rw [List.toList_toArray] at k2
  have l2 := k2.all_eq 46 (pack_len hf.1 hf.2)
  simp -implicitDefEqProofs (maxSteps := 1000000) only [↓zvN, zvU, ↓zvE, zvM, init, one, Value.cells, simprocAttr, tyF, l2]
  exact k1.below hm1 (by omega)
theorem plcZero : zer Tryz.prog 332 = some (.agg plcZ.cells.toArray) := by rw [zer332]; rfl
theorem plc_build (x : PackM) (hf : x.flow.Fit) (hp : x.pref.addr.length = 7) (w0 : World) (K : Value → Prop) : pureP Tryz.prog (Instr.build 332 #[(0, .agg x.cells.toArray), (1, .bool true)]) K = K (.agg (PlcM.mk x true 0).cells.toArray) := by
  refine build_of (P := Tryz.prog) (T := 332) _ (by kernel_rfl) plcZero ?_ w0 K
  refine laid_step (a := []) (b := packZ.cells) (c := [.bool false, .int .i64 0]) (vs := x.cells) rfl rfl (by kernel_rfl) (by rw [pack_len hf hp]; rfl) ?_
  refine laid_step (a := x.cells) (b := [.bool false]) (c := [.int .i64 0]) (vs := [.bool true]) rfl (by simp) (by rw [pack_len hf hp]; kernel_rfl) rfl ?_
  simp [laid, PlcM.cells]
theorem plc_build2 (n : Int) (w0 : World) (K : Value → Prop) : pureP Tryz.prog (Instr.build 332 #[(2, .int .i64 n)]) K = K (.agg (PlcM.mk packZ false n).cells.toArray) :=
  build_of (P := Tryz.prog) (T := 332) _ (by kernel_rfl) plcZero (by kernel_rfl) w0 K
theorem slab_none (w : World) (sp sb : Nat) (ps : List PlcM) (first free : Int) (h : SlabW w sp sb ps first free) (hf : first < 0) (x : PackM) :
    Ret Tryz.prog 167 #[.pointer (some ⟨sp, 0, none⟩), .agg x.cells.toArray] w fun v w' => v = .tuple #[.int .i64 0, .bool false] ∧ More w w' := by
  refine ret_of Tryz.func167 rfl (by kernel_rfl) (Nat.le_of_ble_eq_true (by kernel_rfl)) ?_
  have hm1 := more_alloc w (.cells x.cells.toArray 39)
  simp -implicitDefEqProofs (maxSteps := 1000000) only [↓zvN, zvU, ↓zvE, zvM, init, one, Value.cells, simprocAttr, tyF]
  obtain ⟨w1, hw1⟩ : ∃ w1, w.alloc (.cells x.cells.toArray 39) = w1 := ⟨_, rfl⟩
  rw [hw1] at hm1 ⊢
  simp -implicitDefEqProofs (maxSteps := 1000000) only [↓zvN, zvU, ↓zvE, zvM, init, one, Value.cells, simprocAttr, tyF, (h.more hm1).c1, hf]
  exact hm1
theorem slab_take (w : World) (sp sb : Nat) (ps : List PlcM) (i : Nat) (free : Int) (h : SlabW w sp sb ps i free) (hfr : 0 ≤ free ∧ free ≤ 4096) {y : PlcM} (hy : ps[i]? = some y) (x : PackM) (hx : x.flow.Fit) (hp : x.pref.addr.length = 7) :
    Ret Tryz.prog 167 #[.pointer (some ⟨sp, 0, none⟩), .agg x.cells.toArray] w fun v w' => v = .tuple #[.int .i64 i, .bool true] ∧ SlabW w' sp sb (ps.set i ⟨x, true, 0⟩) y.next (free - 1) ∧ Mod (duo sp sb) w w' := by
  refine ret_of Tryz.func167 rfl (by kernel_rfl) (Nat.le_of_ble_eq_true (by kernel_rfl)) ?_
  have hm1 := more_alloc w (.cells x.cells.toArray 39)
  have hb1 := Blk.new w 39 x.cells.toArray
  simp -implicitDefEqProofs (maxSteps := 1000000) only [↓zvN, zvU, ↓zvE, zvM, init, one, Value.cells, simprocAttr, tyF]
  obtain ⟨w1, hw1⟩ : ∃ w1, w.alloc (.cells x.cells.toArray 39) = w1 := ⟨_, rfl⟩
  rw [hw1] at hm1 hb1 ⊢
  clear hw1
  rw [List.toList_toArray] at hb1
  obtain ⟨z, hz⟩ : ∃ z, w.heap.size = z := ⟨_, rfl⟩
  have hsz : sp < z ∧ sb < z := by rw [← hz]; exact ⟨h.blk.lt, h.rows.lt⟩
  rw [hz] at hb1 ⊢
  have h1 := h.more hm1
  have hl : i < ps.length := (List.getElem?_eq_some_iff.1 hy).1
  have g0 : (0 : Int) ≤ (i : Int) := by omega
  have g0' : ¬ (i : Int) < 0 := by omega
  have g1 : (i : Int) < (ps.length : Int) := by omega
  have hne := h.ne
  simp -implicitDefEqProofs (maxSteps := 1000000) only [↓zvN, zvU, ↓zvE, zvM, init, one, Value.cells, simprocAttr, tyF, h1.c1, h1.c0, g0, g0', g1, Int.toNat_natCast, h1.nextAt hy]
  refine st_cell (i := 1) (v := .int .i64 y.next) h1.blk (by simp [slabC]) rfl fun w2 i2 k2 => ?_
  rw [s2_undef]
  have r2 := i2.blk h1.rows (fun e => hne e.symm)
  have b2 := i2.blk hb1 (by omega)
  have c20 : w2.cell? ⟨sp, 0, none⟩ = some (.slice (some ⟨sb, 0, none⟩) ps.length ps.length) := by rw [k2.cell]; rfl
  have l2 := b2.all_eq 46 (pack_len hx hp)
  have bp := plc_build x hx hp w2
  simp -implicitDefEqProofs (maxSteps := 1000000) only [↓zvN, zvU, ↓zvE, zvM, init, one, Value.cells, simprocAttr, tyF]
  refine draw_seen 7 [[], [0], [0, 1], [0, 1, 2], [], [], [5], [0, 1, 2, 3, 4, 5, 6], [0, 1, 2, 3, 4, 5, 6, 7]] (RV.look []) mixed (by kernel_rfl) (by kernel_rfl) (look_keeps _ (by simp)) ?_
  have lsp : sp < w2.heap.size := k2.lt
  have lz : z < w2.heap.size := b2.lt
  simp -implicitDefEqProofs (maxSteps := 1000000) only [↓zvN, zvU, ↓zqD, ↓zvE, zvM, init, one, Value.cells, simprocAttr, tyF, c20, l2, bp, lsp, lz]
  intro w3 hm3
  simp -implicitDefEqProofs (maxSteps := 1000000) only [↓zvN, zvU, ↓zvE, zvM, init, one, Value.cells, simprocAttr, tyF, p_nil, g0, g1, Int.toNat_natCast]
  have hxf : (PlcM.mk x true 0).Fit := ⟨hx, hp⟩
  refine blk_setRow (r2.more hm3) h.lens hl (m' := ⟨x, true, 0⟩) (PlcM.cells_len hxf) (PlcM.one _) fun w4 i4 k4 => ?_
  rw [s2_undef]
  have k24 := i4.blk (k2.more hm3) hne
  have c22 : w4.cell? ⟨sp, 2, none⟩ = some (.int .i64 free) := by rw [k24.cell]; rfl
  have ef : IntKind.i64.wrap (free - 1) = free - 1 := w64 (by omega) (by omega)
  simp -implicitDefEqProofs (maxSteps := 1000000) only [↓zvN, zvU, ↓zvE, zvM, init, one, Value.cells, simprocAttr, tyF, c22, ef]
  refine st_cell (i := 2) (v := .int .i64 (free - 1)) k24 (by simp [slabC]) rfl fun w5 i5 k5 => ?_
  rw [s2_undef]
  simp -implicitDefEqProofs (maxSteps := 1000000) only [↓zvN, zvU, ↓zvE, zvM, init, one, Value.cells, simprocAttr, tyF]
  have m12 : Mod (duo sp sb) w w5 := ((((Mod.of_more hm1).trans (Mod.of_wr i2 (.inl rfl))).trans (Mod.of_more hm3)).trans (Mod.of_wr i4 (.inr rfl))).trans (Mod.of_wr i5 (.inl rfl))
  exact ⟨⟨by rw [List.length_set]; exact k5, i5.blk k4 (fun e => hne e.symm), fun u hu => by
    rcases List.mem_or_eq_of_mem_set hu with h2 | h2
    · exact h.fit u h2
    · rw [h2]; exact hxf, by rw [List.length_set]; exact h.len⟩, m12⟩
theorem pack_var2 {w : World} {p : PackM} {K : World → Prop} (hn : p.flow.Fit) (hp : p.pref.addr.length = 7) (hK : ∀ w', More w w' → Blk w' w.heap.size 39 p.cells → w'.heap.size = w.heap.size + 1 → K w') :
    stRow 46 p.cells.toArray ⟨w.heap.size, 0, none⟩ (w.alloc (.cells packZ.cells.toArray 39)) K := by
  have hm := more_alloc w (.cells packZ.cells.toArray 39)
  have hb := Blk.new w 39 packZ.cells.toArray
  refine st_all hb (by simpa using pack_len hn hp) rfl (by simpa using PackM.one p) fun w' h1 h2 => hK w' (h1.below hm (Nat.le_refl _)) (by simpa using h2) ?_
  rw [h1.size, size_alloc]
theorem slab_give (w : World) (sp sb : Nat) (ps : List PlcM) (first free : Int) (h : SlabW w sp sb ps first free) (hfr : 0 ≤ free ∧ free ≤ 4096) {i : Nat} {y : PlcM} (hy : ps[i]? = some y) (ht : y.taken = true) :
    Ret Tryz.prog 212 #[.pointer (some ⟨sp, 0, none⟩), .int .i64 i] w fun v w' => v = .tuple #[.agg y.x.cells.toArray, .bool true] ∧ SlabW w' sp sb (ps.set i ⟨packZ, false, first⟩) i (free + 1) ∧ Mod (duo sp sb) w w' := by
  refine ret_of Tryz.func212 rfl (by kernel_rfl) (Nat.le_of_ble_eq_true (by kernel_rfl)) ?_
  have hf := h.fit y (List.mem_of_getElem? hy)
  have hl : i < ps.length := (List.getElem?_eq_some_iff.1 hy).1
  have g0 : (0 : Int) ≤ (i : Int) := by omega
  have g1 : (i : Int) < (ps.length : Int) := by omega
  have hne := h.ne
  simp -implicitDefEqProofs (maxSteps := 1000000) only [↓zvN, zvU, ↓zvE, zvM, init, one, Value.cells, simprocAttr, tyF, zerPack]
  have hm1 := more_alloc w (.cells packZ.cells.toArray 39)
  have hb1 := Blk.new w 39 packZ.cells.toArray
  obtain ⟨w1, hw1⟩ : ∃ w1, w.alloc (.cells packZ.cells.toArray 39) = w1 := ⟨_, rfl⟩
  rw [hw1] at hm1 hb1 ⊢
  clear hw1
  obtain ⟨z, hz⟩ : ∃ z, w.heap.size = z := ⟨_, rfl⟩
  have hsz : sp < z ∧ sb < z := by rw [← hz]; exact ⟨h.blk.lt, h.rows.lt⟩
  rw [hz] at hb1 ⊢
  have h1 := h.more hm1
  refine call_ok Tryz.call158 (slab_get w1 sp sb ps first free h1 hy ht) ?_
  rintro _ w2 ⟨rfl, hm2⟩
  simp -implicitDefEqProofs (maxSteps := 1000000) only [↓zvN, zvU, ↓zvE, zvM, init, one, Value.cells, simprocAttr, tyF, zerPack]
  refine pack_var2 hf.1 hf.2 fun w3 hm3 hb3 _ => ?_
  rw [s2_undef]
  obtain ⟨q, hq⟩ : ∃ q, w2.heap.size = q := ⟨_, rfl⟩
  have hzq : z < q := by rw [← hq]; exact (hb1.more hm2).lt
  rw [hq] at hb3 ⊢
  have h3 := (h1.more hm2).more hm3
  have hb13 := (hb1.more hm2).more hm3
  simp -implicitDefEqProofs (maxSteps := 1000000) only [↓zvN, zvU, ↓zvE, zvM, init, one, Value.cells, simprocAttr, tyF]
  have bp := plc_build2 first w3
  have lsp : sp < w3.heap.size := h3.blk.lt
  refine draw_seen 10 [[], [0], [0, 1], [0, 1, 2], [], [], [5], [5, 6], [5, 6, 7], [5, 6, 7, 8], [0, 1, 2, 3, 4, 5, 6, 7, 8, 9], [0, 1, 2, 3, 4, 5, 6, 7, 8, 9, 10]] (RV.look []) mixed (by kernel_rfl) (by kernel_rfl) (look_keeps _ (by simp)) ?_
  simp -implicitDefEqProofs (maxSteps := 1000000) only [↓zvN, zvU, ↓zqD, ↓zvE, zvM, init, one, Value.cells, simprocAttr, tyF, h3.c0, h3.c1, bp, lsp]
  intro w4 hm4
  simp -implicitDefEqProofs (maxSteps := 1000000) only [↓zvN, zvU, ↓zvE, zvM, init, one, Value.cells, simprocAttr, tyF, p_nil, g0, g1, Int.toNat_natCast]
  have hxf : (PlcM.mk packZ false first).Fit := packZ_fit
  have h4 := h3.more hm4
  refine blk_setRow h4.rows h.lens hl (m' := ⟨packZ, false, first⟩) (PlcM.cells_len hxf) (PlcM.one _) fun w5 i5 k5 => ?_
  rw [s2_undef]
  have k25 := i5.blk h4.blk hne
  simp -implicitDefEqProofs (maxSteps := 1000000) only [↓zvN, zvU, ↓zvE, zvM, init, one, Value.cells, simprocAttr, tyF]
  refine st_cell (i := 1) (v := .int .i64 i) k25 (by simp [slabC]) rfl fun w6 i6 k6 => ?_
  rw [s2_undef]
  have c22 : w6.cell? ⟨sp, 2, none⟩ = some (.int .i64 free) := by rw [k6.cell]; rfl
  have ef : IntKind.i64.wrap (free + 1) = free + 1 := w64 (by omega) (by omega)
  simp -implicitDefEqProofs (maxSteps := 1000000) only [↓zvN, zvU, ↓zvE, zvM, init, one, Value.cells, simprocAttr, tyF, c22, ef]
  refine st_cell (i := 2) (v := .int .i64 (free + 1)) k6 (by simp [slabC]) rfl fun w7 i7 k7 => ?_
  rw [s2_undef]
  have hzsp : z ≠ sp ∧ z ≠ sb ∧ q ≠ sp ∧ q ≠ sb ∧ z ≠ q := by omega
  have hq7 := i7.blk (i6.blk (i5.blk (hb3.more hm4) hzsp.2.2.2.1) hzsp.2.2.1) hzsp.2.2.1
  have hz7 := i7.blk (i6.blk (i5.blk (hb13.more hm4) hzsp.2.1) hzsp.1) hzsp.1
  have l7 := hq7.all_eq 46 (pack_len hf.1 hf.2)
  simp -implicitDefEqProofs (maxSteps := 1000000) only [↓zvN, zvU, ↓zvE, zvM, init, one, Value.cells, simprocAttr, tyF, l7]
  refine st_all hz7 (by simpa using pack_len hf.1 hf.2) rfl (by simpa using PackM.one y.x) fun w8 i8 k8 => ?_
  rw [s2_undef]
  rw [List.toList_toArray] at k8
  have l8 := k8.all_eq 46 (pack_len hf.1 hf.2)
  simp -implicitDefEqProofs (maxSteps := 1000000) only [↓zvN, zvU, ↓zvE, zvM, init, one, Value.cells, simprocAttr, tyF, l8]
  have m13 : Mod (duo sp sb) w w7 := ((((Mod.of_more ((hm1.trans hm2).trans hm3)).trans (Mod.of_more hm4)).trans (Mod.of_wr i5 (.inr rfl))).trans (Mod.of_wr i6 (.inl rfl))).trans (Mod.of_wr i7 (.inl rfl))
  refine ⟨⟨by rw [List.length_set]; exact i8.blk k7 (fun e => hzsp.1 e.symm), i8.blk (i7.blk (i6.blk k5 (fun e => hne e.symm)) (fun e => hne e.symm)) (fun e => hzsp.2.1 e.symm), fun u hu => ?_, by rw [List.length_set]; exact h.len⟩, m13.next (Mod.of_wr (S := fun k => k = z) i8 rfl) (fun k hk e => by omega)⟩
  rcases List.mem_or_eq_of_mem_set hu with h2 | h2
  · exact h.fit u h2
  · rw [h2]; exact hxf
end Go.Proofs.YtofhbonnojooeaaGreat

