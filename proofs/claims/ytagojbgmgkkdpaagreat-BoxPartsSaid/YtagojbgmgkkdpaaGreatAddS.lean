/- Plain: the difference, by words of 64 bits. Nothing of Go. -/
import Derived.Test.YtagojbgmgkkdpaaGreatAddR
namespace Go.Proofs.Pl
set_option linter.unusedSimpArgs false
set_option linter.unusedVariables false

theorem lowCut_hi {m d : Nat} (h : lowCut m d = true) : lowHi m d = 0 := by
 unfold lowCut at h
 unfold lowHi
 split at h
 ·cases h
 ·rw [if_neg (by assumption)]
theorem split_words (M hi lo less X : Nat) (hlo : lo < 18446744073709551616) (hl : less ≤ 1) (hM : M < 18446744073709551616) (hX : X + (hi * 18446744073709551616 + lo) + less = M * 18446744073709551616) :
  ∃ b, b = (if 0 < lo + less then 1 else 0) ∧ b ≤ 1 ∧ hi + b ≤ M ∧ X = (M - hi - b) * 18446744073709551616 + (18446744073709551616 - lo - less) % 18446744073709551616 ∧ (M + 18446744073709551616 - hi - b) % 18446744073709551616 = M - hi - b := by
 by_cases h : 0 < lo + less
 ·refine ⟨1, by rw [if_pos h], Nat.le_refl _, by omega, ?_, by omega⟩
  by_cases ht : lo + less = 18446744073709551616
  ·rw [show 18446744073709551616 - lo - less = 0 from by omega]; omega
  ·rw [Nat.mod_eq_of_lt (by omega)]; omega
 ·refine ⟨0, by rw [if_neg h], by omega, by omega, ?_, by omega⟩
  rw [show lo = 0 from by omega, show less = 0 from by omega] at hX ⊢
  simp only [Nat.sub_zero, Nat.mod_self]
  omega
/-- the difference of two words' numbers: its words, and what is left -/
theorem minus_parts (M m d k : Nat) (hM0 : 9223372036854775808 ≤ M) (hM : M < 18446744073709551616) (hm0 : 9223372036854775808 ≤ m) (hm : m < 18446744073709551616) (hk : 128 ≤ k) (hlt : m * 2 ^ k < M * 2 ^ (k + d)) :
  ∃ b H L r, b = (if 0 < lowLo m d + (if lowCut m d = true then 1 else 0) then 1 else 0) ∧ b ≤ 1 ∧ lowHi m d + b ≤ M ∧ L = (18446744073709551616 - lowLo m d - (if lowCut m d = true then 1 else 0)) % 18446744073709551616 ∧ L < 18446744073709551616 ∧ H = (M + 18446744073709551616 - lowHi m d - b) % 18446744073709551616 ∧ H < 18446744073709551616 ∧ (H = 0 → L ≠ 0 ∧ lowCut m d = false) ∧
   (lowCut m d = true ↔ r ≠ 0) ∧ (M * 2 ^ (k + d) - m * 2 ^ k) * 18446744073709551616 = (H * 18446744073709551616 + L) * 2 ^ (k + d) + r ∧ r < 2 ^ (k + d) := by
 obtain ⟨X, r, h1, h2, h3, h4⟩ := minus_words 18446744073709551616 rfl M m d k (by omega) hm hlt
 obtain ⟨rem, _, _, _, _, h5⟩ := low_spec 18446744073709551616 rfl m d (by omega) hm
 have hl1 : (if lowCut m d = true then 1 else 0) ≤ 1 := by split <;> omega
 obtain ⟨b, hb, hb1, hb2, hX, hH⟩ := split_words M (lowHi m d) (lowLo m d) (if lowCut m d = true then 1 else 0) X h5 hl1 hM h1
 refine ⟨b, M - lowHi m d - b, _, r, hb, hb1, hb2, rfl, Nat.mod_lt _ (by decide), hH.symm, by omega, ?_, h2, by rw [h3, hX], h4⟩
 intro hz
 have hcf : lowCut m d = false := by
  cases hc : lowCut m d
  ·rfl
  ·have := lowCut_hi hc
   omega
 refine ⟨?_, hcf⟩
 intro hL
 have hr : r = 0 := by
  rcases Nat.eq_zero_or_pos r with h | h
  ·exact h
  ·have := h2.2 (by omega)
   rw [hcf] at this
   cases this
 rw [hz, hL, Nat.zero_mul, Nat.zero_add] at hX
 rw [hX, hr, Nat.zero_mul, Nat.zero_add] at h3
 have h6 : 0 < M * 2 ^ (k + d) - m * 2 ^ k := by omega
 have := Nat.mul_pos h6 (show 0 < 18446744073709551616 by decide)
 omega
end Go.Proofs.Pl
