/-
  Layer 9: what a right head tells.
-/
import Derived.Test.YtjdeooeddcjmmaaHead
namespace Go.Proofs.Ytjdeooeddcjmmaa
open Go Go.RowKit Go.Proofs.RV
set_option linter.unusedSimpArgs false
set_option linter.unusedVariables false

theorem wsum_raw (p n s : Int) (hp : 0 ≤ p ∧ p < 256) (hs : 0 ≤ s ∧ s ≤ 65535) : wsum (rawHead p n s) = wsum (rawHead p n 0) + s := by
  unfold rawHead
  simp only [wsum]
  rw [u8_toNat (x := s / 256) (by omega) (by omega), u8_toNat (x := s % 256) (by omega) (by omega), u8_toNat (x := 0 / 256) (by omega) (by omega), u8_toNat (x := 0 % 256) (by omega) (by omega)]
  omega
theorem wsum_raw_pos (p n : Int) : 0 < wsum (rawHead p n 0) := by
  have e : ∀ a b r, wsum (a :: b :: r) = (a.toNat : Int) * 256 + b.toNat + wsum r := fun a b r => by rw [wsum]
  unfold rawHead
  rw [e]
  have := wsum_nonneg [u8 (n / 256 % 256), u8 (n % 256), 0, 0, 0, 0, 64, u8 p, u8 (0 / 256), u8 (0 % 256), 10, 0, 0, 1, 10, 0, 0, 2]
  have h69 : (((69 : UInt8).toNat : Nat) : Int) = 69 := rfl
  rw [h69]
  omega
theorem headSum_range (p n : Int) : 0 ≤ headSum p n ∧ headSum p n ≤ 65535 := by
  have := norm_range (wsum_nonneg (rawHead p n 0))
  unfold headSum
  omega
theorem norm_raw (p n : Int) (hp : 0 ≤ p ∧ p < 256) : norm (wsum (rawHead p n (headSum p n))) = 65535 := by
  rw [wsum_raw p n _ hp (headSum_range p n)]
  have h0 := wsum_raw_pos p n
  have hr := norm_range (wsum_nonneg (rawHead p n 0))
  unfold headSum
  generalize wsum (rawHead p n 0) = S at *
  unfold norm at *
  rw [if_neg (by omega)] at *
  rw [if_neg (by omega)]
  omega
def goodNet (p : Int) (body : List UInt8) : NetM := ⟨p, [10, 0, 0, 1] ++ noBytes 12, [10, 0, 0, 2] ++ noBytes 12, body, true⟩
theorem headL_len (p : Int) (body : List UInt8) : (headL p body).length = 20 + body.length := by
  unfold headL
  rw [List.length_append]
  rfl
set_option maxRecDepth 20000 in
theorem head_why (p : Int) (body more : List UInt8) (hp : 0 ≤ p ∧ p < 256) (hb : body.length ≤ 65000) : why4 (headL p body ++ more) = 0 ∧ parse4 (headL p body ++ more) = goodNet p body := by
  have hlen : (headL p body ++ more).length = 20 + body.length + more.length := by rw [List.length_append, headL_len]
  have hn := headSum_range p (20 + body.length)
  have b0 : bt (headL p body ++ more) 0 = 69 := rfl
  have h4 : head4 (headL p body ++ more) = 20 := by unfold head4; rw [b0]; rfl
  have t2 : two (headL p body ++ more) 2 = 20 + body.length := by
    have a1 : bt (headL p body ++ more) 2 = ((u8 ((20 + (body.length : Int)) / 256 % 256)).toNat : Int) := rfl
    have a2 : bt (headL p body ++ more) (2 + 1) = ((u8 ((20 + (body.length : Int)) % 256)).toNat : Int) := rfl
    unfold two
    rw [a1, a2, u8_toNat (by omega) (by omega), u8_toNat (by omega) (by omega)]
    omega
  have t6 : two (headL p body ++ more) 6 = 0 := rfl
  have tk : (headL p body ++ more).take 20 = rawHead p (20 + body.length) (headSum p (20 + body.length)) := by
    unfold headL
    rw [List.append_assoc, List.take_append_of_le_length (by simp [rawHead])]
    rfl
  have hw : why4 (headL p body ++ more) = 0 := by
    unfold why4
    rw [h4, t2, b0, hlen]
    rw [if_neg (by omega), if_neg (by omega), if_neg (by omega), if_neg (by omega), if_neg ?_]
    have : (20 : Int).toNat = 20 := rfl
    rw [this, tk, norm_raw p _ hp]
    omega
  refine ⟨hw, ?_⟩
  unfold parse4
  rw [if_pos hw]
  unfold net4 goodNet
  have hbody : ((headL p body ++ more).take (20 + (body.length : Int)).toNat).drop (20 : Int).toNat = body := by
    have e1 : (20 + (body.length : Int)).toNat = (headL p body).length := by rw [headL_len]; omega
    have e2 : (20 : Int).toNat = (rawHead p (20 + body.length) (headSum p (20 + body.length))).length := rfl
    rw [e1, List.take_left, e2]
    unfold headL
    rw [List.drop_left]
  rw [h4, t2, t6, hbody]
  have b9 : bt (headL p body ++ more) 9 = p := by
    have : bt (headL p body ++ more) 9 = ((u8 p).toNat : Int) := rfl
    rw [this, u8_toNat hp.1 hp.2]
  rw [b9]
  rfl
end Go.Proofs.Ytjdeooeddcjmmaa
