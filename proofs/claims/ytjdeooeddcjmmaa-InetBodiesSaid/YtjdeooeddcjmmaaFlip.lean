/-
  Layer 9: a head with one bit turned.
-/
import Derived.Test.YtjdeooeddcjmmaaGood
namespace Go.Proofs.Ytjdeooeddcjmmaa
open Go Go.RowKit Go.Proofs.RV
set_option linter.unusedSimpArgs false
set_option linter.unusedVariables false

theorem xor_cases : ∀ (x : Fin 256) (j : Fin 8), (x.val ^^^ 2 ^ j.val) < 256 ∧ ((x.val ^^^ 2 ^ j.val) = x.val + 2 ^ j.val ∨ x.val = (x.val ^^^ 2 ^ j.val) + 2 ^ j.val) := by decide +kernel
theorem xor_nat {a b : Nat} (ha : a < 256) (hb : b < 256) (hab : a ^^^ b < 256) : bits .xor .u8 a b = ((a ^^^ b : Nat) : Int) := by
  unfold bits
  simp only [ofInt_nat]
  have e : (BitVec.ofNat IntKind.u8.bits a ^^^ BitVec.ofNat IntKind.u8.bits b).toNat = a ^^^ b := by
    rw [BitVec.toNat_xor, BitVec.toNat_ofNat, BitVec.toNat_ofNat, Nat.mod_eq_of_lt (by simpa [IntKind.bits] using ha), Nat.mod_eq_of_lt (by simpa [IntKind.bits] using hb)]
  rw [e]
  exact wrap_nat (by simp [IntKind.max, IntKind.signed, IntKind.bits]; omega)
theorem two_pow_8 {j : Nat} (hj : j < 8) : 1 ≤ 2 ^ j ∧ 2 ^ j ≤ 128 := by
  have h2 : 2 ^ j ≤ 2 ^ 7 := Nat.pow_le_pow_right (by omega) (by omega)
  have h1 : 0 < 2 ^ j := Nat.two_pow_pos j
  omega
/-- a byte with one bit turned -/
theorem flip_byte {x : Int} {j : Nat} (h0 : 0 ≤ x) (h1 : x < 256) (hj : j < 8) : ∃ y : Int, bits .xor .u8 x ((2 ^ j : Nat) : Int) = y ∧ 0 ≤ y ∧ y < 256 ∧ (y = x + (2 ^ j : Nat) ∨ x = y + (2 ^ j : Nat)) := by
  obtain ⟨n, rfl⟩ := Int.eq_ofNat_of_zero_le h0
  have hn : n < 256 := by omega
  have hc : (n ^^^ 2 ^ j) < 256 ∧ ((n ^^^ 2 ^ j) = n + 2 ^ j ∨ n = (n ^^^ 2 ^ j) + 2 ^ j) := xor_cases ⟨n, hn⟩ ⟨j, hj⟩
  have hp := two_pow_8 hj
  refine ⟨_, xor_nat hn (by omega) hc.1, by omega, by omega, ?_⟩
  omega
/-- the sum of words, one byte set -/
theorem wsum_set : ∀ (l : List UInt8) (i : Nat) (b : UInt8), l.length % 2 = 0 → i < l.length → wsum (l.set i b) = wsum l + ((b.toNat : Int) - bt l i) * (if i % 2 = 0 then 256 else 1)
  | [], i, b, _, hi => by simp at hi
  | [_], i, b, h, _ => by simp at h
  | x :: y :: r, 0, b, _, _ => by
    have : bt (x :: y :: r) 0 = x.toNat := rfl
    simp only [List.set_cons_zero, wsum, this]
    rw [if_pos trivial]
    omega
  | x :: y :: r, 1, b, _, _ => by
    have : bt (x :: y :: r) 1 = y.toNat := rfl
    simp only [List.set_cons_succ, List.set_cons_zero, wsum, this]
    rw [if_neg (show ¬ 1 % 2 = 0 by decide)]
    omega
  | x :: y :: r, i + 2, b, h, hi => by
    have ih := wsum_set r i b (by simp at h; omega) (by simpa using hi)
    have e : bt (x :: y :: r) (i + 2) = bt r i := rfl
    simp only [List.set_cons_succ, wsum, ih, e]
    rw [show (i + 2) % 2 = i % 2 by omega]
    omega
set_option maxRecDepth 20000 in
/-- with one bit of a right head turned it is refused -/
theorem flip_why (p : Int) (body more : List UInt8) (hp : 0 ≤ p ∧ p < 256) (hb : body.length ≤ 65000) (i j : Nat) (hi : i < 20) (hj : j < 8) (hij : 4 ≤ 8 * i + j) (y : Int) (hy0 : 0 ≤ y) (hy1 : y < 256)
    (hy : y = bt (headL p body ++ more) i + (2 ^ j : Nat) ∨ bt (headL p body ++ more) i = y + (2 ^ j : Nat)) : why4 ((headL p body ++ more).set i (u8 y)) ≠ 0 := by
  intro hw
  have hp2 := two_pow_8 hj
  have hlen : (headL p body ++ more).length = 20 + body.length + more.length := by rw [List.length_append, headL_len]
  have tk : (headL p body ++ more).take 20 = rawHead p (20 + body.length) (headSum p (20 + body.length)) := by
    unfold headL
    rw [List.append_assoc, List.take_append_of_le_length (by simp [rawHead])]
    rfl
  have bti : bt (rawHead p (20 + body.length) (headSum p (20 + body.length))) i = bt (headL p body ++ more) i := by
    rw [← tk]
    simp [bt, List.getD_eq_getElem?_getD, List.getElem?_take, hi]
  have hbit : ∀ k, bt ((headL p body ++ more).set i (u8 y)) k = if k = i then y else bt (headL p body ++ more) k := by
    intro k
    unfold bt
    rw [List.getD_eq_getElem?_getD, List.getD_eq_getElem?_getD]
    by_cases hk : k = i
    · subst hk
      rw [if_pos rfl, List.getElem?_set_self (by omega), Option.getD_some, u8_toNat hy0 hy1]
    · rw [if_neg hk, List.getElem?_set_ne (by omega)]
  have b0 : bt (headL p body ++ more) 0 = 69 := rfl
  unfold why4 at hw
  split at hw
  · cases hw
  split at hw
  · cases hw
  rename_i hv
  split at hw
  · cases hw
  split at hw
  · cases hw
  split at hw
  · cases hw
  rename_i hn
  have hn' : norm (wsum (((headL p body ++ more).set i (u8 y)).take (head4 ((headL p body ++ more).set i (u8 y))).toNat)) = 65535 := by omega
  have h20 : head4 ((headL p body ++ more).set i (u8 y)) = 20 := by
    have e0 := hbit 0
    unfold head4 at hv ⊢
    by_cases h0 : 0 = i
    · subst h0
      rw [if_pos rfl] at e0
      rw [e0] at hv ⊢
      rw [b0] at hy
      have h16 : ∃ z, 2 ^ j = 16 * z := ⟨2 ^ (j - 4), by rw [show (16 : Nat) = 2 ^ 4 from rfl, ← Nat.pow_add]; congr 1; omega⟩
      obtain ⟨z, hz⟩ := h16
      omega
    · rw [if_neg h0, b0] at e0
      rw [e0]
      rfl
  rw [h20, show (20 : Int).toNat = 20 from rfl, List.take_set, tk, wsum_set _ _ _ (by simp [rawHead]) (by simpa [rawHead] using hi), bti, u8_toNat hy0 hy1, wsum_raw p _ _ hp (headSum_range p _)] at hn'
  have h0 := wsum_raw_pos p (20 + body.length)
  have hr := norm_range (wsum_nonneg (rawHead p (20 + body.length) 0))
  have hs : headSum p (20 + body.length) = 65535 - norm (wsum (rawHead p (20 + body.length) 0)) := rfl
  rw [hs] at hn'
  generalize wsum (rawHead p (20 + body.length) 0) = S at *
  unfold norm at *
  rw [if_neg (show ¬ S = 0 by omega)] at *
  split at hn'
  · omega
  · split at hn' <;> omega
end Go.Proofs.Ytjdeooeddcjmmaa
