/-
  Plain numbers: wraps that do nothing, bytes put together, remainders and shifts as Go has them.
-/
import Derived.Test.YtahcaplhdgphcaaGreatOps
namespace Go.Proofs.YtahcaplhdgphcaaGreat
open Go Go.RowKit Go.Proofs.RV
set_option linter.unusedSimpArgs false

theorem w64 {x : Int} (h0 : -9223372036854775808 ≤ x) (h1 : x < 9223372036854775808) : IntKind.i64.wrap x = x := by
  simp [IntKind.wrap, IntKind.signed, IntKind.bits]; omega
theorem w64_byte (l : List UInt8) (i : Nat) : IntKind.i64.wrap (bt l i) = bt l i := w64 (by have := bt_nonneg l i; omega) (by have := bt_lt l i; omega)
theorem wu8 {x : Int} (h0 : 0 ≤ x) (h1 : x < 256) : IntKind.u8.wrap x = x := by
  simp [IntKind.wrap, IntKind.signed, IntKind.bits]; omega
theorem wu16 {x : Int} (h0 : 0 ≤ x) (h1 : x < 65536) : IntKind.u16.wrap x = x := by
  simp [IntKind.wrap, IntKind.signed, IntKind.bits]; omega
theorem wu64 {x : Int} (h0 : 0 ≤ x) (h1 : x < 18446744073709551616) : IntKind.u64.wrap x = x := by
  simp [IntKind.wrap, IntKind.signed, IntKind.bits]; omega

theorem wrap_nat {k : IntKind} {a : Nat} (h : (a : Int) ≤ k.max) : k.wrap (a : Int) = (a : Int) := by
  cases k <;> simp [IntKind.wrap, IntKind.signed, IntKind.bits, IntKind.max] at h ⊢ <;> omega
theorem wrap_id {k : IntKind} {x : Int} (h0 : 0 ≤ x) (h1 : x ≤ k.max) : k.wrap x = x := by
  obtain ⟨n, rfl⟩ := Int.eq_ofNat_of_zero_le h0
  exact wrap_nat h1
theorem ofInt_nat (n a : Nat) : BitVec.ofInt n (a : Int) = BitVec.ofNat n a := by simp
theorem and_nat {k : IntKind} {a b : Nat} (ha : (a : Int) ≤ k.max) (hb : (b : Int) ≤ k.max) : bits .and k a b = ((a &&& b : Nat) : Int) := by
  have hla : a < 2 ^ k.bits := by cases k <;> simp [IntKind.max, IntKind.signed, IntKind.bits] at ha ⊢ <;> omega
  have hlb : b < 2 ^ k.bits := by cases k <;> simp [IntKind.max, IntKind.signed, IntKind.bits] at hb ⊢ <;> omega
  unfold bits
  simp only [ofInt_nat]
  have e : (BitVec.ofNat k.bits a &&& BitVec.ofNat k.bits b).toNat = a &&& b := by
    rw [BitVec.toNat_and, BitVec.toNat_ofNat, BitVec.toNat_ofNat, Nat.mod_eq_of_lt hla, Nat.mod_eq_of_lt hlb]
  rw [e]
  refine wrap_nat ?_
  have : a &&& b ≤ a := Nat.and_le_left
  omega
theorem or_nat {k : IntKind} {a b : Nat} (ha : (a : Int) ≤ k.max) (hb : (b : Int) ≤ k.max) (hab : ((a ||| b : Nat) : Int) ≤ k.max) : bits .or k a b = ((a ||| b : Nat) : Int) := by
  have hla : a < 2 ^ k.bits := by cases k <;> simp [IntKind.max, IntKind.signed, IntKind.bits] at ha ⊢ <;> omega
  have hlb : b < 2 ^ k.bits := by cases k <;> simp [IntKind.max, IntKind.signed, IntKind.bits] at hb ⊢ <;> omega
  unfold bits
  simp only [ofInt_nat]
  have e : (BitVec.ofNat k.bits a ||| BitVec.ofNat k.bits b).toNat = a ||| b := by
    rw [BitVec.toNat_or, BitVec.toNat_ofNat, BitVec.toNat_ofNat, Nat.mod_eq_of_lt hla, Nat.mod_eq_of_lt hlb]
  rw [e]
  exact wrap_nat hab
/-- 'x & (2^m - 1)' -/
theorem and_mask {k : IntKind} {x : Int} (m : Nat) (h0 : 0 ≤ x) (h1 : x ≤ k.max) (hm : ((2 ^ m - 1 : Nat) : Int) ≤ k.max) : bits .and k x ((2 ^ m - 1 : Nat) : Int) = x % (2 ^ m : Nat) := by
  obtain ⟨n, rfl⟩ := Int.eq_ofNat_of_zero_le h0
  rw [and_nat h1 hm, Nat.and_two_pow_sub_one_eq_mod]
  simp
/-- 'x << m | y' -/
theorem or_low {k : IntKind} {x y : Int} (m : Nat) (hx : 0 ≤ x) (hy : 0 ≤ y) (hm : y < (2 ^ m : Nat)) (h : x * (2 ^ m : Nat) + y ≤ k.max) : bits .or k (x * (2 ^ m : Nat)) y = x * (2 ^ m : Nat) + y := by
  obtain ⟨a, rfl⟩ := Int.eq_ofNat_of_zero_le hx
  obtain ⟨b, rfl⟩ := Int.eq_ofNat_of_zero_le hy
  have hb : b < 2 ^ m := by exact_mod_cast hm
  have e : a * 2 ^ m + b = a * 2 ^ m ||| b := by
    rw [Nat.mul_comm]
    exact Nat.two_pow_add_eq_or_of_lt hb a
  have e2 : ((a : Int) * (2 ^ m : Nat)) = ((a * 2 ^ m : Nat) : Int) := by simp
  rw [e2] at h ⊢
  rw [or_nat (by omega) (by have : 0 ≤ ((a * 2 ^ m : Nat) : Int) := Int.natCast_nonneg _; omega) (by rw [← e]; simpa using h), ← e]
  simp
theorem or_byte {x y : Int} (hx : 0 ≤ x) (hx1 : x < 36028797018963967) (hy : 0 ≤ y) (hy1 : y < 256) : bits .or .i64 (x * 256) y = x * 256 + y :=
  or_low (k := .i64) 8 hx hy (by simpa using hy1) (by simp [IntKind.max, IntKind.signed, IntKind.bits]; omega)
theorem shl8 (x : Int) : x * 2 ^ min 8 IntKind.i64.bits = x * 256 := by
  have : min 8 IntKind.i64.bits = 8 := by simp [IntKind.bits]
  rw [this]
  rfl
theorem and15 {x : Int} (h0 : 0 ≤ x) (h1 : x < 256) : bits .and .u8 x 15 = x % 16 :=
  and_mask (k := .u8) 4 h0 (by simp [IntKind.max, IntKind.signed, IntKind.bits]; omega) (by simp [IntKind.max, IntKind.signed, IntKind.bits])
theorem shr4 (x : Int) : x.fdiv (2 ^ min 4 IntKind.u8.bits) = x / 16 := by
  rw [show min 4 IntKind.u8.bits = 4 from rfl, Int.fdiv_eq_ediv_of_nonneg _ (by omega)]
  rfl
end Go.Proofs.YtahcaplhdgphcaaGreat
