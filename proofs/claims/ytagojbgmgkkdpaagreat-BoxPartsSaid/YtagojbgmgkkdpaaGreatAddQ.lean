/- Plain: the sum of the program, by words of 64 bits, is the exact sum, rounded. Nothing of Go. -/
import Derived.Test.YtagojbgmgkkdpaaGreatAddPl
namespace Go.Proofs.Pl
set_option linter.unusedSimpArgs false
set_option linter.unusedVariables false

/-- 64 bits moved down by some: the upper word, the lower one, whether more was cut off (W: 2^64) -/
def lowHi (m d : Nat) : Nat := if d < 64 then m / 2 ^ d else 0
def lowLo (m d : Nat) : Nat := if d < 64 then m * 2 ^ (64 - d) % 18446744073709551616 else if d < 128 then m / 2 ^ (d - 64) else 0
def lowCut (m d : Nat) : Bool := if d < 64 then false else if d < 128 then decide (m * 2 ^ (128 - d) % 18446744073709551616 ≠ 0) else true
theorem W64 : (2 : Nat) ^ 64 = 18446744073709551616 := by decide
theorem pw {W : Nat} (hW : W = 18446744073709551616) {d : Nat} (h : d ≤ 64) : W = 2 ^ d * 2 ^ (64 - d) := by
 rw [hW, ← W64, ← Nat.pow_add]; congr 1; omega
theorem mul_zero' {a b : Nat} (h : a * b = 0) (hb : 0 < b) : a = 0 := by
 rcases Nat.mul_eq_zero.1 h with h | h
 ·exact h
 ·omega
theorem low_spec (W : Nat) (hW : W = 18446744073709551616) (m d : Nat) (h0 : 0 < m) (hm : m < W) : ∃ rem, m * W = (lowHi m d * W + lowLo m d) * 2 ^ d + rem ∧ rem < 2 ^ d ∧ (lowCut m d = true ↔ rem ≠ 0) ∧ lowHi m d ≤ m ∧ lowLo m d < W := by
 have hWp : 0 < W := by omega
 unfold lowHi lowLo lowCut
 rw [← hW]
 by_cases h1 : d < 64
 ·simp only [if_pos h1]
  have e64 := pw hW (Nat.le_of_lt h1)
  refine ⟨0, ?_, Nat.pow_pos (by decide), by simp, Nat.div_le_self _ _, Nat.mod_lt _ hWp⟩
  have e1 : m * 2 ^ (64 - d) % W = (m % 2 ^ d) * 2 ^ (64 - d) := by
   have h2 := Nat.mul_mod_mul_right (2 ^ (64 - d)) m (2 ^ d)
   rw [← e64] at h2
   exact h2
  rw [e1, Nat.add_zero]
  have e3 := Nat.div_add_mod m (2 ^ d)
  generalize 2 ^ (64 - d) = q at e64
  generalize m / 2 ^ d = a at e3
  generalize m % 2 ^ d = b at e3
  generalize 2 ^ d = P at e64 e3
  rw [e64, ← e3, Nat.add_mul, Nat.add_mul]
  congr 1
  ·rw [Nat.mul_comm P a, Nat.mul_assoc, Nat.mul_assoc]; congr 1; rw [Nat.mul_comm P (P * q), Nat.mul_comm P q]
  ·rw [Nat.mul_comm P q, ← Nat.mul_assoc]
 ·simp only [if_neg h1]
  by_cases h2 : d < 128
  ·simp only [if_pos h2]
   have eP : (2 : Nat) ^ d = 2 ^ (d - 64) * W := by
    have := Nat.pow_add 2 (d - 64) 64
    rw [W64, ← hW, show d - 64 + 64 = d from by omega] at this
    exact this
   have e9 : 128 - d = 64 - (d - 64) := by omega
   rw [e9]
   have hf : d - 64 < 64 := by omega
   generalize 2 ^ d = Q at eP
   generalize d - 64 = f at eP hf
   have e64 := pw hW (Nat.le_of_lt hf)
   have e1 : m * 2 ^ (64 - f) % W = (m % 2 ^ f) * 2 ^ (64 - f) := by
    have h2 := Nat.mul_mod_mul_right (2 ^ (64 - f)) m (2 ^ f)
    rw [← e64] at h2
    exact h2
   have hp : 0 < 2 ^ (64 - f) := Nat.pow_pos (by decide)
   have hmod : m % 2 ^ f < 2 ^ f := Nat.mod_lt _ (Nat.pow_pos (by decide))
   have e3 := Nat.div_add_mod m (2 ^ f)
   have hdl : m / 2 ^ f < W := Nat.lt_of_le_of_lt (Nat.div_le_self _ _) hm
   rw [e1]
   generalize m / 2 ^ f = a at e3 hdl
   generalize m % 2 ^ f = b at e3 hmod
   generalize 2 ^ f = P at e3 hmod eP
   generalize 2 ^ (64 - f) = q at hp
   refine ⟨b * W, ?_, ?_, ?_, Nat.zero_le _, hdl⟩
   ·rw [eP, Nat.zero_mul, Nat.zero_add, ← e3, Nat.add_mul]
    congr 1
    rw [Nat.mul_comm P a, Nat.mul_assoc]
   ·rw [eP]; exact Nat.mul_lt_mul_of_pos_right hmod hWp
   ·rw [decide_eq_true_iff]
    constructor
    ·intro h h'
     exact h (by rw [mul_zero' h' hWp, Nat.zero_mul])
    ·intro h h'
     exact h (by rw [mul_zero' h' hp, Nat.zero_mul])
  ·simp only [if_neg h2]
   refine ⟨m * W, by simp, ?_, ?_, Nat.zero_le _, hWp⟩
   ·have h3 : (2 : Nat) ^ 128 ≤ 2 ^ d := Nat.pow_le_pow_right (by decide) (by omega)
    have h4 : m * W < W * W := Nat.mul_lt_mul_of_pos_right hm hWp
    have h5 : W * W = 2 ^ 128 := by rw [hW]
    rw [h5] at h4
    exact Nat.lt_of_lt_of_le h4 h3
   ·refine ⟨fun _ h => ?_, fun _ => trivial⟩
    have := mul_zero' h hWp
    omega
/-- the sum of two of one sign: what is left -/
theorem plus_norm (W : Nat) (hW : W = 18446744073709551616) (M m d k : Nat) (h0 : 0 < m) (hm : m < W) :
  ∃ r, ((lowCut m d = true ∨ lowLo m d ≠ 0) ↔ r ≠ 0) ∧ M * 2 ^ (k + d) + m * 2 ^ k = (M + lowHi m d) * 2 ^ (k + d) + r ∧ r < 2 ^ (k + d) := by
 obtain ⟨rem, h1, h2, h3, h4, h5⟩ := low_spec W hW m d h0 hm
 have hWp : 0 < W := by omega
 have hp : 0 < 2 ^ d := Nat.pow_pos (by decide)
 have hk : 0 < 2 ^ k := Nat.pow_pos (by decide)
 clear hW hm h4
 generalize lowHi m d = hi at *
 generalize lowLo m d = lo at *
 generalize lowCut m d = ct at *
 rw [Nat.pow_add]
 generalize 2 ^ d = P at *
 generalize 2 ^ k = K at *
 have e1 : (hi * W + lo) * P + rem = hi * P * W + (lo * P + rem) := by
  rw [Nat.add_mul, Nat.add_assoc]; congr 1; rw [Nat.mul_assoc, Nat.mul_assoc, Nat.mul_comm W P]
 rw [e1] at h1
 have hlt : lo * P + rem < W * P := by
  have h6 : (lo + 1) * P ≤ W * P := Nat.mul_le_mul_right _ h5
  rw [Nat.add_mul, Nat.one_mul] at h6
  omega
 have hle : hi * P ≤ m := by
  rcases Nat.lt_or_ge m (hi * P) with h | h
  ·have := Nat.mul_lt_mul_of_pos_right h hWp
   omega
  ·exact h
 obtain ⟨T, hT⟩ := Nat.exists_eq_add_of_le hle
 have hTe : T * W = lo * P + rem := by
  rw [hT, Nat.add_mul] at h1
  omega
 have hTl : T < P := by
  rcases Nat.lt_or_ge T P with h | h
  ·exact h
  ·have := Nat.mul_le_mul_right W h
   rw [Nat.mul_comm P] at this
   omega
 refine ⟨T * K, ?_, ?_, ?_⟩
 ·rw [h3]
  constructor
  ·intro h h'
   have hT0 := mul_zero' h' hk
   rw [hT0, Nat.zero_mul] at hTe
   have hz : lo * P = 0 ∧ rem = 0 := by omega
   rcases h with h | h
   ·exact h hz.2
   ·exact h (mul_zero' hz.1 hp)
  ·intro h
   by_cases hl : lo = 0
   ·left
    intro hr
    rw [hl, hr, Nat.zero_mul] at hTe
    exact h (by rw [mul_zero' hTe hWp, Nat.zero_mul])
   ·exact .inr hl
 ·rw [hT, Nat.add_mul M, Nat.add_mul (hi * P), Nat.add_assoc]
  congr 2
  rw [Nat.mul_assoc, Nat.mul_comm P K]
 ·rw [Nat.mul_comm K]
  exact Nat.mul_lt_mul_of_pos_right hTl hk
/-- the difference: two words, and what is left -/
theorem minus_words (W : Nat) (hW : W = 18446744073709551616) (M m d k : Nat) (h0 : 0 < m) (hm : m < W) (hlt : m * 2 ^ k < M * 2 ^ (k + d)) :
  ∃ X r, X + (lowHi m d * W + lowLo m d) + (if lowCut m d = true then 1 else 0) = M * W ∧ (lowCut m d = true ↔ r ≠ 0) ∧ (M * 2 ^ (k + d) - m * 2 ^ k) * W = X * 2 ^ (k + d) + r ∧ r < 2 ^ (k + d) := by
 obtain ⟨rem, h1, h2, h3, h4, h5⟩ := low_spec W hW m d h0 hm
 have hWp : 0 < W := by omega
 have hp : 0 < 2 ^ d := Nat.pow_pos (by decide)
 have hk : 0 < 2 ^ k := Nat.pow_pos (by decide)
 clear hW hm h4 h5
 generalize lowHi m d * W + lowLo m d = Y at *
 rw [Nat.pow_add] at hlt ⊢
 generalize 2 ^ d = P at *
 generalize 2 ^ k = K at *
 have hmm : m < M * P := by
  rw [Nat.mul_comm K, ← Nat.mul_assoc] at hlt
  exact Nat.lt_of_mul_lt_mul_right hlt
 have hMP : M * P * W = M * W * P := by rw [Nat.mul_assoc, Nat.mul_assoc, Nat.mul_comm P]
 have h6 : Y * P + rem < M * W * P := by
  rw [← h1, ← hMP]
  exact Nat.mul_lt_mul_of_pos_right hmm hWp
 have hYM : Y < M * W := Nat.lt_of_mul_lt_mul_right (Nat.lt_of_le_of_lt (Nat.le_add_right _ rem) h6)
 have key : (M * (K * P) - m * K) * W = (M * W * P - (Y * P + rem)) * K := by
  rw [← h1, ← hMP, ← Nat.sub_mul, Nat.mul_comm K P, ← Nat.mul_assoc, ← Nat.sub_mul, Nat.mul_assoc, Nat.mul_assoc, Nat.mul_comm K W]
 rw [key]
 by_cases hc : lowCut m d = true
 ·have hr := h3.1 hc
  rw [if_pos hc]
  obtain ⟨X, hX⟩ := Nat.exists_eq_add_of_lt hYM
  refine ⟨X, (P - rem) * K, by omega, ⟨fun _ hz => ?_, fun _ => hc⟩, ?_, ?_⟩
  ·have := mul_zero' hz hk
   omega
  ·rw [Nat.mul_comm K P, ← Nat.mul_assoc, ← Nat.add_mul]
   congr 1
   rw [hX, Nat.add_mul, Nat.add_mul, Nat.one_mul]
   omega
  ·rw [Nat.mul_comm K]; exact Nat.mul_lt_mul_of_pos_right (by omega) hk
 ·have hr : rem = 0 := by
   rcases Nat.eq_zero_or_pos rem with h | h
   ·exact h
   ·exact absurd (h3.2 (by omega)) hc
  rw [if_neg hc]
  refine ⟨M * W - Y, 0, by omega, ⟨fun h => absurd h hc, fun h => absurd rfl h⟩, ?_, Nat.mul_pos hk hp⟩
  rw [hr, Nat.add_zero, Nat.add_zero, ← Nat.sub_mul, Nat.mul_comm K P, ← Nat.mul_assoc]
/-- two words moved up until the highest bit is 1 -/
theorem up_norm (W : Nat) (hW : W = 18446744073709551616) (s hi lo k u r : Nat) (hk : u ≤ k) (hb : u < 64) (h : s * W = (hi * W + lo) * 2 ^ k + r) (hr : r < 2 ^ k) (hlo : lo < W) (h1 : 9223372036854775808 ≤ hi * 2 ^ u) (h2 : hi * 2 ^ u < W) :
  ∃ r', Norm s (hi * 2 ^ u + lo * 2 ^ u / W) (k - u) r' ∧ (r' ≠ 0 ↔ lo * 2 ^ u % W ≠ 0 ∨ r ≠ 0) := by
 have hWp : 0 < W := by omega
 obtain ⟨j, rfl⟩ : ∃ j, k = j + u := ⟨k - u, by omega⟩
 rw [Nat.add_sub_cancel]
 have e64 := pw hW (Nat.le_of_lt hb)
 have hq := Nat.div_add_mod (lo * 2 ^ u) W
 have hmod : lo * 2 ^ u % W = (lo % 2 ^ (64 - u)) * 2 ^ u := by
  have h3 := Nat.mul_mod_mul_right (2 ^ u) lo (2 ^ (64 - u))
  rw [Nat.mul_comm (2 ^ (64 - u)), ← e64] at h3
  exact h3
 have hrr : lo % 2 ^ (64 - u) < 2 ^ (64 - u) := Nat.mod_lt _ (Nat.pow_pos (by decide))
 have hpj : 0 < 2 ^ j := Nat.pow_pos (by decide)
 have hpu : 0 < 2 ^ u := Nat.pow_pos (by decide)
 have hmW : hi * 2 ^ u + lo * 2 ^ u / W < W ∧ 9223372036854775808 ≤ hi * 2 ^ u + lo * 2 ^ u / W := by
  have hq2 : lo * 2 ^ u / W < 2 ^ u := by
   rw [Nat.div_lt_iff_lt_mul hWp, Nat.mul_comm (2 ^ u)]
   exact Nat.mul_lt_mul_of_pos_right hlo hpu
  refine ⟨?_, Nat.le_trans h1 (Nat.le_add_right _ _)⟩
  have h6 : hi < 2 ^ (64 - u) := by
   rw [e64, Nat.mul_comm (2 ^ u)] at h2
   exact Nat.lt_of_mul_lt_mul_right h2
  have h7 := Nat.mul_le_mul_right (2 ^ u) h6
  rw [Nat.succ_mul, Nat.mul_comm (2 ^ (64 - u)), ← e64] at h7
  omega
 have hl3 : lo * 2 ^ u % W + 2 ^ u ≤ W := by
  have h7 := Nat.mul_le_mul_right (2 ^ u) hrr
  rw [Nat.succ_mul, Nat.mul_comm (2 ^ (64 - u)), ← e64, ← hmod] at h7
  exact h7
 rw [Nat.pow_add] at h hr
 have hmW1 : hi * 2 ^ u + lo * 2 ^ u / W < 18446744073709551616 := by rw [← hW]; exact hmW.1
 have hmW2 := hmW.2
 clear hW hmod hrr e64 h1 h2 hmW hlo hb hk
 generalize lo * 2 ^ u / W = q at *
 generalize lo * 2 ^ u % W = l3 at *
 unfold Norm
 generalize 2 ^ j = J at *
 generalize 2 ^ u = U at *
 have hs : s * W = (hi * U + q) * J * W + (l3 * J + r) := by
  rw [h]
  have e1 : (hi * W + lo) * (J * U) = hi * U * W * J + lo * U * J := by
   rw [Nat.add_mul]
   congr 1
   ·rw [Nat.mul_assoc, Nat.mul_assoc, Nat.mul_assoc]; congr 1; rw [Nat.mul_comm J U, ← Nat.mul_assoc, ← Nat.mul_assoc, Nat.mul_comm W U]
   ·rw [Nat.mul_comm J U, Nat.mul_assoc]
  have e2 : (hi * U + q) * J * W = hi * U * W * J + W * q * J := by
   rw [Nat.add_mul, Nat.add_mul]
   congr 1
   ·rw [Nat.mul_assoc, Nat.mul_assoc (hi * U), Nat.mul_comm J W]
   ·rw [Nat.mul_assoc, Nat.mul_comm J W, ← Nat.mul_assoc, Nat.mul_comm q W]
  rw [e1, e2, ← hq, Nat.add_mul]
  omega
 have hlt : l3 * J + r < J * W := by
  have h7 := Nat.mul_le_mul_right J hl3
  rw [Nat.add_mul, Nat.mul_comm W, Nat.mul_comm U] at h7
  omega
 have hle : (hi * U + q) * J ≤ s := by
  rcases Nat.lt_or_ge s ((hi * U + q) * J) with h' | h'
  ·have := Nat.mul_lt_mul_of_pos_right h' hWp
   omega
  ·exact h'
 obtain ⟨t, ht⟩ := Nat.exists_eq_add_of_le hle
 have htt : t * W = l3 * J + r := by
  rw [ht, Nat.add_mul] at hs
  omega
 refine ⟨t, ⟨ht, ?_, hmW2, hmW1⟩, ?_⟩
 ·rw [← htt] at hlt
  exact Nat.lt_of_mul_lt_mul_right hlt
 ·constructor
  ·intro h'
   by_cases hl : l3 = 0
   ·right
    intro hr0
    rw [hl, hr0, Nat.zero_mul] at htt
    exact h' (mul_zero' htt hWp)
   ·exact .inl hl
  ·intro h' h''
   rw [h'', Nat.zero_mul] at htt
   have hz : l3 * J = 0 ∧ r = 0 := by omega
   rcases h' with h' | h'
   ·exact h' (mul_zero' hz.1 hpj)
   ·exact h' hz.2
end Go.Proofs.Pl
