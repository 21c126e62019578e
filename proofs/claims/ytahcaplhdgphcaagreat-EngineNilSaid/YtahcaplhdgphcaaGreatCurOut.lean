/-
  Layer 2: bytes that are put.
-/
import Derived.Test.YtahcaplhdgphcaaGreatCurMore
import Derived.Test.YtahcaplhdgphcaaGreatXt
namespace Go.Proofs.YtahcaplhdgphcaaGreat
open Go Go.RowKit Go.Proofs.RV
set_option linter.unusedSimpArgs false
set_option linter.unusedVariables false
set_option maxRecDepth 10000
set_option maxHeartbeats 2000000

/-- byte k of a number -/
def dig (n : Int) (k : Nat) : Int := n / (256 ^ k : Nat) % 256
theorem dig_range (n : Int) (k : Nat) : 0 ≤ dig n k ∧ dig n k < 256 := by unfold dig; omega
/-- so many bytes of a number, the highest first -/
def numB (n : Int) : Nat → List UInt8
  | 0 => []
  | m + 1 => u8 (dig n m) :: numB n m
theorem numB_len (n : Int) : ∀ m, (numB n m).length = m
  | 0 => rfl
  | m + 1 => by rw [numB, List.length_cons, numB_len n m]
theorem be_cons (b : UInt8) (l : List UInt8) : be (b :: l) = b.toNat * (256 ^ l.length : Nat) + be l := by
  have h : ∀ (l : List UInt8) (x : Int), l.foldl (fun x b => x * 256 + (b.toNat : Int)) x = x * (256 ^ l.length : Nat) + be l := by
    intro l
    induction l with
    | nil => intro x; simp [be]
    | cons c l ih =>
      intro x
      have e : be (c :: l) = (0 * 256 + (c.toNat : Int)) * (256 ^ l.length : Nat) + be l := ih _
      rw [List.foldl_cons, ih, e]
      simp only [List.length_cons, Nat.pow_succ]
      generalize (256 ^ l.length : Nat) = p
      generalize be l = y
      generalize (c.toNat : Int) = z
      have : ((p * 256 : Nat) : Int) = (p : Int) * 256 := by simp
      rw [this, Int.add_mul, Int.zero_mul, Int.zero_add, Int.mul_assoc, Int.mul_comm 256, Int.add_assoc]
  unfold be
  rw [List.foldl_cons, h]
  simp [be]
theorem be_numB {n : Int} (h : 0 ≤ n) : ∀ m, be (numB n m) = n % (256 ^ m : Nat)
  | 0 => by simp [numB, be]
  | m + 1 => by
    have hd := dig_range n m
    rw [numB, be_cons, be_numB h m, numB_len, u8_toNat hd.1 hd.2]
    unfold dig
    have hp : 0 < ((256 ^ m : Nat) : Int) := by have : 0 < 256 ^ m := Nat.pow_pos (by omega); omega
    rw [Nat.pow_succ]
    have e : ((256 ^ m * 256 : Nat) : Int) = ((256 ^ m : Nat) : Int) * 256 := by simp
    rw [e]
    generalize ((256 ^ m : Nat) : Int) = p at *
    have hp0 : 0 ≤ p := by omega
    rw [Int.emod_def n (p * 256), Int.emod_def (n / p) 256, Int.emod_def n p, Int.ediv_ediv_of_nonneg hp0]
    generalize n / p = a
    generalize n / (p * 256) = b
    rw [Int.sub_mul, Int.mul_comm a p, Int.mul_assoc 256, Int.mul_assoc p, Int.mul_left_comm p 256 b, Int.mul_comm b p]
    omega
theorem shr_dig {n : Int} (h : 0 ≤ n) {q : Int} {k : Nat} (hq : q = 8 * k) (hk : k < 8) : n.fdiv (2 ^ min q.toNat IntKind.u64.bits) = n / (256 ^ k : Nat) := by
  have h1 : min q.toNat IntKind.u64.bits = 8 * k := by
    have : IntKind.u64.bits = 64 := rfl
    omega
  have h2 : (2 : Int) ^ (8 * k) = ((256 ^ k : Nat) : Int) := by
    rw [Int.pow_mul]
    simp
  rw [h1, h2, Int.fdiv_eq_ediv_of_nonneg _ (Int.natCast_nonneg _)]
theorem wrap_dig (n : Int) (k : Nat) : IntKind.u8.wrap (n / (256 ^ k : Nat)) = dig n k := by
  simp [IntKind.wrap, IntKind.signed, IntKind.bits, dig]
/-- an Out at q, its bytes at A -/
def OutAt (w : World) (B q : Nat) (A : Option Addr) (c : Nat) (l : List UInt8) : Prop :=
  Blk w q 96 [.slice A l.length c] ∧ Own w B 5 1 A l.length c (l.map byteV) ∧ B ≤ q ∧ ∀ k, atB A k → k ≠ q
/-- the blocks of an Out -/
def outS (q : Nat) (A : Option Addr) (k : Nat) : Prop := k = q ∨ atB A k
theorem OutAt.mod {w w' : World} {B q c : Nat} {A : Option Addr} {l : List UInt8} {S : Nat → Prop} (h : OutAt w B q A c l) (hm : Mod S w w') (hS : ∀ k, outS q A k → ¬ S k) : OutAt w' B q A c l :=
  ⟨hm.blk h.1 (hS q (.inl rfl)), hm.own h.2.1 fun x hx => hS _ (.inr ⟨x, hx, rfl⟩), h.2.2⟩
theorem OutAt.more {w w' : World} {B q c : Nat} {A : Option Addr} {l : List UInt8} (h : OutAt w B q A c l) (hm : More w w') : OutAt w' B q A c l := h.mod (S := fun _ => False) (Mod.of_more hm) fun _ _ h => h
theorem OutAt.ge {w : World} {B q c k : Nat} {A : Option Addr} {l : List UInt8} (h : OutAt w B q A c l) (hk : outS q A k) : B ≤ k ∧ k < w.heap.size := by
  rcases hk with rfl | hk
  · exact ⟨h.2.2.1, h.1.lt⟩
  · exact h.2.1.atB_ge hk
/-- what an Out has become -/
def OutR (w : World) (B q : Nat) (A : Option Addr) (l : List UInt8) (w' : World) : Prop := ∃ A' c', OutAt w' B q A' c' l ∧ Mod (outS q A) w w' ∧ ∀ k, outS q A' k → outS q A k ∨ w.heap.size ≤ k
theorem out_raw (w : World) (B q : Nat) (A : Option Addr) (c : Nat) (l : List UInt8) (A2 : Option Addr) (m : List UInt8) (c2 : Nat) (h : OutAt w B q A c l) (hA : Bs w A2 m) (hl : l.length ≤ 3000000) (hm : m.length ≤ 140737488351232) (hB : B ≤ w.heap.size) :
    Ret Tryz.prog 47 #[.pointer (some ⟨q, 0, none⟩), .slice A2 m.length c2] w fun v w' => v = .tuple #[] ∧ OutR w B q A (l ++ m) w' := by
  obtain ⟨hb, ho, hq, hne⟩ := h
  refine ret_of Tryz.func47 rfl (by kernel_rfl) (Nat.le_of_ble_eq_true (by kernel_rfl)) ?_
  simp (config := {maxSteps := 1000000, implicitDefEqProofs := false}) only [↓zvD, zvU, ↓up_apply, ↓hv_apply, ↓upO_some, ↓upO_none, ↓ev_tmp, ↓ev_const, ↓ev_func, ↓ev_global, init, Nat.reduceEqDiff, Nat.reduceAdd, Nat.reduceMul, Nat.reduceSub, ↓reduceIte, Int.reduceEq, Int.reduceNe, Nat.reduceLeDiff, one, Value.cells, Int.reduceLE, Int.reduceLT, Int.reduceToNat, add_mk, reduceCtorEq, List.mem_range'_1, true_and, and_true, and_false, false_and, Nat.reduceLT, Nat.reduceLeDiff, tyF, hb.cell]
  refine app_wide (m := m.length) Tryz.underlying40 byteE rfl (by omega) ho hA (by simp) (byteV_one m) (by simp only [maxLen]; omega) (by omega) hB ?_
  intro A' c' w1 ho1 hm1 hat
  have hb1 := hm1.blk hb fun h => hne _ h rfl
  simp (config := {maxSteps := 1000000, implicitDefEqProofs := false}) only [↓zvD, zvU, ↓up_apply, ↓hv_apply, ↓upO_some, ↓upO_none, ↓ev_tmp, ↓ev_const, ↓ev_func, ↓ev_global, init, Nat.reduceEqDiff, Nat.reduceAdd, Nat.reduceMul, Nat.reduceSub, ↓reduceIte, Int.reduceEq, Int.reduceNe, Nat.reduceLeDiff, one, Value.cells, Int.reduceLE, Int.reduceLT, Int.reduceToNat, add_mk, reduceCtorEq, List.mem_range'_1, true_and, and_true, and_false, false_and, Nat.reduceLT, Nat.reduceLeDiff, tyF, hb1.cell]
  refine st_cell hb1 (by simp) rfl fun w2 k1 k2 => ?_
  have hne' : ∀ k, atB A' k → k ≠ q := by
    rintro k hk rfl
    rcases hat k hk with h | h
    · exact hne k h rfl
    · have := hb.lt
      omega
  rw [← List.map_append] at ho1
  refine ⟨A', c', ⟨by simpa using k2, ?_, hq, hne'⟩, ?_, ?_⟩
  · rw [List.length_append]
    exact ho1.wr k1 fun g hg => hne' g ⟨_, hg, rfl⟩
  · exact (hm1.mono fun k _ hk => .inr hk).next (Mod.of_wr (S := fun k => k = q) k1 rfl) fun k _ hk => .inl hk
  · rintro k (rfl | hk)
    · exact .inl (.inl rfl)
    · rcases hat k hk with h | h
      · exact .inl (.inr h)
      · exact .inr (by omega)
theorem out_bytes (w : World) (B q : Nat) (A : Option Addr) (c : Nat) (l : List UInt8) (h : OutAt w B q A c l) (hl : l.length ≤ 3000000) :
    Ret Tryz.prog 49 #[.pointer (some ⟨q, 0, none⟩)] w fun v w' => ∃ A' c', v = .slice A' l.length c' ∧ Own w' w.heap.size 5 1 A' l.length c' (l.map byteV) ∧ More w w' := by
  obtain ⟨hb, ho, hq, hne⟩ := h
  refine ret_of Tryz.func49 rfl (by kernel_rfl) (Nat.le_of_ble_eq_true (by kernel_rfl)) ?_
  simp (config := {maxSteps := 1000000, implicitDefEqProofs := false}) only [↓zvD, zvU, ↓up_apply, ↓hv_apply, ↓upO_some, ↓upO_none, ↓ev_tmp, ↓ev_const, ↓ev_func, ↓ev_global, init, Nat.reduceEqDiff, Nat.reduceAdd, Nat.reduceMul, Nat.reduceSub, ↓reduceIte, Int.reduceEq, Int.reduceNe, Nat.reduceLeDiff, one, Value.cells, Int.reduceLE, Int.reduceLT, Int.reduceToNat, add_mk, reduceCtorEq, List.mem_range'_1, true_and, and_true, and_false, false_and, Nat.reduceLT, Nat.reduceLeDiff, tyF, hb.cell]
  refine call_ok Tryz.call89 (clone w A l c ho.cs (by omega)) ?_
  rintro _ w1 ⟨A', c', rfl, ho1, hm1⟩
  simp (config := {maxSteps := 1000000, implicitDefEqProofs := false}) only [↓zvD, zvU, ↓up_apply, ↓hv_apply, ↓upO_some, ↓upO_none, ↓ev_tmp, ↓ev_const, ↓ev_func, ↓ev_global, init, Nat.reduceEqDiff, Nat.reduceAdd, Nat.reduceMul, Nat.reduceSub, ↓reduceIte, Int.reduceEq, Int.reduceNe, Nat.reduceLeDiff, one, Value.cells, Int.reduceLE, Int.reduceLT, Int.reduceToNat, add_mk, reduceCtorEq, List.mem_range'_1, true_and, and_true, and_false, false_and, Nat.reduceLT, Nat.reduceLeDiff, tyF]
  exact ⟨A', c', rfl, ho1, hm1⟩
end Go.Proofs.YtahcaplhdgphcaaGreat
