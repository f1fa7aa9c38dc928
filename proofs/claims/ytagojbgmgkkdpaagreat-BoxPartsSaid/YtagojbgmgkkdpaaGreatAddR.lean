/- Plain: what the program makes of two numbers of one sign, and of two signs, is their sum, rounded. Nothing of Go. -/
import Derived.Test.YtagojbgmgkkdpaaGreatAddQ
namespace Go.Proofs.Pl
set_option linter.unusedSimpArgs false
set_option linter.unusedVariables false

def sg (n : Bool) : Int := if n = true then -1 else 1
theorem valN_nat (n : Bool) (M : Nat) (e : Int) (j : Nat) (h : e + BB = j) : valN ⟨1, n, (M : Int), e⟩ = sg n * ((M * 2 ^ j : Nat) : Int) := by
 unfold valN sg
 simp only [h, Int.toNat_natCast]
 congr 1
theorem rnd_of (n : Bool) (S m k r : Nat) (hN : Norm S m k r) (up : Bool) (e : Int) (he : (k : Int) - BB = e) : Rnd (sg n * (S : Int)) up (growN n m e (decide (r ≠ 0)) (up != n)) := by
 have hS : 0 < S := by
  obtain ⟨rfl, _, h3, _⟩ := hN
  have : 0 < m * 2 ^ k := Nat.mul_pos (by omega) (Nat.pow_pos (by decide))
  omega
 have hab : (sg n * (S : Int)).natAbs = S := by unfold sg; cases n <;> simp
 have hs : decide (sg n * (S : Int) < 0) = n := by
  unfold sg
  cases n
  ·simp
  ·simp only [if_true]; rw [decide_eq_true_iff]; omega
 right
 refine ⟨m, k, r, ?_, ?_, ?_⟩
 ·intro h; rw [h] at hab; simp at hab; omega
 ·rw [hab]; exact hN
 ·rw [hs, he]
theorem norm_half {S Q K r : Nat} (hK : 0 < K) (hr : r < K) (h1 : 18446744073709551616 ≤ Q) (h2 : Q < 36893488147419103232) (hS : S = Q * K + r) : S = Q / 2 * (K * 2) + (Q % 2 * K + r) ∧ Q % 2 * K + r < K * 2 ∧ (Q % 2 * K + r ≠ 0 ↔ Q % 2 ≠ 0 ∨ r ≠ 0) := by
 have e := Nat.div_add_mod Q 2
 have hp : Q % 2 = 0 ∨ Q % 2 = 1 := by omega
 refine ⟨?_, ?_, ?_⟩
 ·rw [hS]
  have : Q * K = Q / 2 * (K * 2) + Q % 2 * K := by
   have h3 : Q / 2 * (K * 2) = 2 * (Q / 2) * K := by rw [Nat.mul_comm K 2, ← Nat.mul_assoc, Nat.mul_comm (Q / 2) 2]
   rw [h3, ← Nat.add_mul, e]
  omega
 ·rcases hp with hp | hp <;> rw [hp] <;> omega
 ·rcases hp with hp | hp <;> rw [hp] <;> omega
/-- the sum of two of one sign, as the program makes it -/
def plusN (n : Bool) (M m : Nat) (ea : Int) (d : Nat) (up : Bool) : Num :=
 if M + lowHi m d < 18446744073709551616 then growN n ((M + lowHi m d : Nat) : Int) ea (lowCut m d || decide (lowLo m d ≠ 0)) (up != n)
 else growN n (((M + lowHi m d) / 2 : Nat) : Int) (ea + 1) ((lowCut m d || decide (lowLo m d ≠ 0)) || decide ((M + lowHi m d) % 2 ≠ 0)) (up != n)
theorem plus_rnd (n : Bool) (M m : Nat) (ea eb : Int) (d k : Nat) (up : Bool) (hM0 : 9223372036854775808 ≤ M) (hM : M < 18446744073709551616) (hm0 : 0 < m) (hm : m < 18446744073709551616) (hk : eb + BB = k) (hd : ea - eb = d) :
  Rnd (valN ⟨1, n, M, ea⟩ + valN ⟨1, n, m, eb⟩) up (plusN n M m ea d up) := by
 have hka : ea + BB = ((k + d : Nat) : Int) := by omega
 rw [valN_nat n M ea (k + d) hka, valN_nat n m eb k hk, ← Int.mul_add]
 obtain ⟨r, h1, h2, h3⟩ := plus_norm 18446744073709551616 rfl M m d k hm0 hm
 obtain ⟨rem, _, _, _, h4, _⟩ := low_spec 18446744073709551616 rfl m d hm0 hm
 have hc : (lowCut m d || decide (lowLo m d ≠ 0)) = decide (r ≠ 0) := by
  rw [Bool.eq_iff_iff, decide_eq_true_iff, ← h1, Bool.or_eq_true, decide_eq_true_iff]
 unfold plusN
 rw [hc]
 have hsum : ((M * 2 ^ (k + d) : Nat) : Int) + ((m * 2 ^ k : Nat) : Int) = ((M * 2 ^ (k + d) + m * 2 ^ k : Nat) : Int) := by rw [Int.natCast_add]
 rw [hsum]
 have hP : 0 < 2 ^ (k + d) := Nat.pow_pos (by decide)
 by_cases hS : M + lowHi m d < 18446744073709551616
 ·rw [if_pos hS]
  exact rnd_of n _ _ (k + d) r ⟨h2, h3, by omega, hS⟩ up ea (by omega)
 ·rw [if_neg hS]
  obtain ⟨g1, g2, g3⟩ := norm_half hP h3 (by omega) (by omega) h2
  have hc2 : (decide (r ≠ 0) || decide ((M + lowHi m d) % 2 ≠ 0)) = decide ((M + lowHi m d) % 2 * 2 ^ (k + d) + r ≠ 0) := by
   rw [Bool.eq_iff_iff, decide_eq_true_iff, g3, Bool.or_eq_true, decide_eq_true_iff, decide_eq_true_iff]
   exact Or.comm
  rw [hc2]
  refine rnd_of n _ _ (k + d + 1) _ ⟨?_, ?_, by omega, by omega⟩ up (ea + 1) (by omega)
  ·rw [Nat.pow_succ]; exact g1
  ·rw [Nat.pow_succ]; exact g2
end Go.Proofs.Pl
