/- Plain: a sum rounded to a side: what the program computes is the exact sum, rounded; rounding keeps the order. Nothing of Go. -/
import Derived.Test.YtagojbgmgkkdpaaGreatIvPl3
namespace Go.Proofs.Pl
set_option linter.unusedSimpArgs false
set_option linter.unusedVariables false

def boundN (neg : Bool) (m e : Int) (away : Bool) : Num :=
  if 1048576 < e then (if away = true then ⟨2, neg, 0, 0⟩ else ⟨1, neg, 18446744073709551615, 1048576⟩)
  else if e < -1048576 then (if away = true then ⟨1, neg, 9223372036854775808, -1048576⟩ else ⟨0, false, 0, 0⟩)
  else ⟨1, neg, m, e⟩
def growN (neg : Bool) (m e : Int) (cut away : Bool) : Num :=
  if (cut && away) = true then (if m = 18446744073709551615 then boundN neg 9223372036854775808 (e + 1) away else boundN neg (m + 1) e away)
  else boundN neg m e away
/-- s, in 64 bits of which the highest is 1, a power of two, and what is left -/
def Norm (s m k r : Nat) : Prop := s = m * 2 ^ k + r ∧ r < 2 ^ k ∧ 9223372036854775808 ≤ m ∧ m < 18446744073709551616
theorem Norm.le {s t m k r m' k' r' : Nat} (h : Norm s m k r) (g : Norm t m' k' r') (hst : s ≤ t) : k < k' ∨ (k = k' ∧ (m < m' ∨ (m = m' ∧ r ≤ r'))) := by
  obtain ⟨rfl, h2, h3, h4⟩ := h
  obtain ⟨rfl, g2, g3, g4⟩ := g
  rcases Nat.lt_trichotomy k k' with hk | hk | hk
  · exact .inl hk
  · subst hk
    refine .inr ⟨rfl, ?_⟩
    rcases Nat.lt_trichotomy m m' with hm | hm | hm
    · exact .inl hm
    · subst hm; exact .inr ⟨rfl, by omega⟩
    · exfalso
      have : (m' + 1) * 2 ^ k ≤ m * 2 ^ k := Nat.mul_le_mul_right _ hm
      rw [Nat.add_mul, Nat.one_mul] at this
      omega
  · exfalso
    have e : 2 ^ k' * 2 ≤ 2 ^ k := by
      rw [← Nat.pow_succ]; exact Nat.pow_le_pow_right (by omega) hk
    have h5 : 9223372036854775808 * (2 ^ k' * 2) ≤ m * 2 ^ k := Nat.mul_le_mul h3 e
    have h6 : (m' + 1) * 2 ^ k' ≤ 18446744073709551616 * 2 ^ k' := Nat.mul_le_mul_right _ g4
    rw [Nat.add_mul, Nat.one_mul] at h6
    omega
def BB : Int := 1048704
/-- what is exactly s, rounded -/
def Rnd (s : Int) (up : Bool) (c : Num) : Prop :=
  (s = 0 ∧ c = zero) ∨ ∃ m k r : Nat, s ≠ 0 ∧ Norm s.natAbs m k r ∧ c = growN (decide (s < 0)) m (k - BB) (decide (r ≠ 0)) (up != decide (s < 0))
theorem grow_mag (n away : Bool) (m k r : Nat) (h1 : 9223372036854775808 ≤ m) (h2 : m < 18446744073709551616) :
    mayN (growN n m (k - BB) (decide (r ≠ 0)) away) = true ∧ Wf (growN n m (k - BB) (decide (r ≠ 0)) away) ∧ 0 ≤ mag (growN n m (k - BB) (decide (r ≠ 0)) away) ∧ key (growN n m (k - BB) (decide (r ≠ 0)) away) = if n = true then -(mag (growN n m (k - BB) (decide (r ≠ 0)) away)) else mag (growN n m (k - BB) (decide (r ≠ 0)) away) := by
  unfold growN boundN BB
  refine ⟨?_, ?_, ?_, ?_⟩
  · (repeat' split) <;> unfold mayN <;> simp <;> omega
  · (repeat' split) <;> unfold Wf <;> simp <;> omega
  · (repeat' split) <;> unfold mag TOP <;> simp <;> omega
  · (repeat' split) <;> unfold key mag <;> simp_all
theorem grow_le (n n' away : Bool) {m k r m' k' r' : Nat} (h1 : 9223372036854775808 ≤ m) (h2 : m < 18446744073709551616) (g1 : 9223372036854775808 ≤ m') (g2 : m' < 18446744073709551616)
    (h : k < k' ∨ (k = k' ∧ (m < m' ∨ (m = m' ∧ r ≤ r')))) : mag (growN n m (k - BB) (decide (r ≠ 0)) away) ≤ mag (growN n' m' (k' - BB) (decide (r' ≠ 0)) away) := by
  have hA : ∀ (n : Bool) (m k r : Nat), 9223372036854775808 ≤ m → m < 18446744073709551616 → mag (growN n m (k - BB) (decide (r ≠ 0)) away) =
      (if away = true then
        (if r ≠ 0 then (if m = 18446744073709551615 then (if (1048576 : Int) < k - 1048704 + 1 then TOP else if (k : Int) - 1048704 + 1 < -1048576 then 9223372036854775809 else ((k : Int) - 1048704 + 1 + 1048576) * 18446744073709551616 + 9223372036854775809) else (if (1048576 : Int) < k - 1048704 then TOP else if (k : Int) - 1048704 < -1048576 then 9223372036854775809 else ((k : Int) - 1048704 + 1048576) * 18446744073709551616 + (m + 1) + 1)) else (if (1048576 : Int) < k - 1048704 then TOP else if (k : Int) - 1048704 < -1048576 then 9223372036854775809 else ((k : Int) - 1048704 + 1048576) * 18446744073709551616 + m + 1))
       else (if (1048576 : Int) < k - 1048704 then 2097152 * 18446744073709551616 + 18446744073709551616 else if (k : Int) - 1048704 < -1048576 then 0 else ((k : Int) - 1048704 + 1048576) * 18446744073709551616 + m + 1)) := by
    intro n m k r h1 h2
    unfold growN boundN BB
    cases away <;> by_cases hr : r = 0 <;> simp only [hr, ne_eq, not_true_eq_false, not_false_eq_true, decide_true, decide_false, Bool.and_self, Bool.and_false, Bool.false_and, Bool.true_and, Bool.false_eq_true, if_false, if_true] <;> (repeat' split) <;> unfold mag <;> simp <;> omega
  rw [hA n m k r h1 h2, hA n' m' k' r' g1 g2]
  unfold TOP
  cases away
  · simp only [Bool.false_eq_true, if_false]
    rcases h with h | ⟨rfl, h | ⟨rfl, h⟩⟩ <;> (repeat' split) <;> omega
  · simp only [if_true]
    by_cases hr : r = 0 <;> by_cases hr' : r' = 0 <;> simp only [hr, hr', ne_eq, not_true_eq_false, not_false_eq_true, if_true, if_false] <;> rcases h with h | ⟨rfl, h | ⟨rfl, h⟩⟩ <;> (repeat' split) <;> omega
theorem Rnd.may {s : Int} {up : Bool} {c : Num} (h : Rnd s up c) : mayN c = true ∧ Wf c := by
  rcases h with ⟨_, rfl⟩ | ⟨m, k, r, h0, ⟨_, _, h3, h4⟩, rfl⟩
  · exact ⟨mayN_zero, zero_wf⟩
  · have := grow_mag (decide (s < 0)) (up != decide (s < 0)) m k r h3 h4
    exact ⟨this.1, this.2.1⟩
theorem key_zero : key zero = 0 := by decide +kernel
/-- rounding keeps the order -/
theorem Rnd.mono {s t : Int} {up : Bool} {c d : Num} (h : Rnd s up c) (g : Rnd t up d) (hst : s ≤ t) : key c ≤ key d := by
  rcases h with ⟨rfl, rfl⟩ | ⟨m, k, r, h0, hN, rfl⟩
  · rw [key_zero]
    rcases g with ⟨_, rfl⟩ | ⟨m', k', r', g0, gN, rfl⟩
    · rw [key_zero]; exact Int.le_refl _
    · have := grow_mag (decide (t < 0)) (up != decide (t < 0)) m' k' r' gN.2.2.1 gN.2.2.2
      rw [this.2.2.2, if_neg (by simp; omega)]
      exact this.2.2.1
  · have hm := grow_mag (decide (s < 0)) (up != decide (s < 0)) m k r hN.2.2.1 hN.2.2.2
    rcases g with ⟨rfl, rfl⟩ | ⟨m', k', r', g0, gN, rfl⟩
    · rw [key_zero, hm.2.2.2, if_pos (by simp; omega)]
      have := hm.2.2.1
      omega
    · have gm := grow_mag (decide (t < 0)) (up != decide (t < 0)) m' k' r' gN.2.2.1 gN.2.2.2
      rw [hm.2.2.2, gm.2.2.2]
      by_cases hs : s < 0
      · by_cases ht : t < 0
        · rw [if_pos (decide_eq_true hs), if_pos (decide_eq_true ht)]
          rw [decide_eq_true hs, decide_eq_true ht]
          have := grow_le true true (up != true) gN.2.2.1 gN.2.2.2 hN.2.2.1 hN.2.2.2 (gN.le hN (by omega))
          omega
        · rw [if_pos (decide_eq_true hs), if_neg (by simpa using ht)]
          have h1 := hm.2.2.1
          have h2 := gm.2.2.1
          omega
      · have ht : ¬ t < 0 := by omega
        rw [if_neg (by simpa using hs), if_neg (by simpa using ht)]
        rw [decide_eq_false hs, decide_eq_false ht]
        exact grow_le false false (up != false) hN.2.2.1 hN.2.2.2 gN.2.2.1 gN.2.2.2 (hN.le gN (by omega))
theorem Rnd.uniq {s : Int} {up : Bool} {c d : Num} (h : Rnd s up c) (g : Rnd s up d) : c = d :=
  key_inj h.may.1 g.may.1 h.may.2 g.may.2 (Int.le_antisymm (h.mono g (Int.le_refl _)) (g.mono h (Int.le_refl _)))
/-- a number's value, in units of 2^-1048704; of one without end: 0 -/
def valN (x : Num) : Int := (if x.n = true then -1 else 1) * (x.m * 2 ^ (x.e + BB).toNat)
def Finite (x : Num) : Prop := mayN x = true ∧ x.k ≠ 2 ∧ Wf x
theorem Rnd.self {x : Num} (h : Finite x) (up : Bool) : Rnd (valN x) up x := by
  obtain ⟨hm, hk, hw⟩ := h
  obtain ⟨k, n, m, e⟩ := x
  rcases may_cases hm with ⟨h1, h2, h3, h4⟩ | ⟨h1, h2, h3, h4⟩ | ⟨h1, _⟩
  · left
    simp only at h1 h2 h3 h4
    subst h1 h2 h3 h4
    exact ⟨by unfold valN; simp, rfl⟩
  · right
    simp only at h1 h2 h3 h4
    subst h1
    unfold Wf at hw
    simp only at hw
    obtain ⟨M, rfl⟩ := Int.eq_ofNat_of_zero_le hw.1
    obtain ⟨j, hj⟩ := Int.eq_ofNat_of_zero_le (show 0 ≤ e + BB by unfold BB; omega)
    have hp : 0 < M * 2 ^ j := Nat.mul_pos (by omega) (Nat.pow_pos (by omega))
    have hv : valN ⟨1, n, (M : Int), e⟩ = (if n = true then -1 else 1) * ((M * 2 ^ j : Nat) : Int) := by
      unfold valN
      simp only [hj, Int.toNat_natCast]
      congr 1
    have hab : (valN ⟨1, n, (M : Int), e⟩).natAbs = M * 2 ^ j := by
      rw [hv]; generalize M * 2 ^ j = q; cases n <;> simp <;> omega
    have hs : decide (valN ⟨1, n, (M : Int), e⟩ < 0) = n := by
      rw [hv]
      generalize M * 2 ^ j = q at hp
      cases n
      · simp
      · simp only [if_true]; rw [decide_eq_true_iff]; omega
    refine ⟨M, j, 0, ?_, ?_, ?_⟩
    · intro hz; rw [hz] at hab; simp at hab; omega
    · rw [hab]; exact ⟨by omega, Nat.pow_pos (by omega), by omega, by omega⟩
    · rw [hs]
      have he : (j : Int) - BB = e := by omega
      rw [he]
      unfold growN boundN
      simp only [ne_eq, not_true_eq_false, decide_false, Bool.false_and, Bool.false_eq_true, if_false]
      rw [if_neg (by omega), if_neg (by omega)]
  · exact absurd h1 hk
theorem val_le {x y : Num} (hx : Finite x) (hy : Finite y) : valN x ≤ valN y ↔ key x ≤ key y := by
  constructor
  · exact fun h => (Rnd.self hx true).mono (Rnd.self hy true) h
  · intro h
    rcases Int.le_total (valN x) (valN y) with g | g
    · exact g
    · have e := key_inj hx.1 hy.1 hx.2.2 hy.2.2 (Int.le_antisymm h ((Rnd.self hy true).mono (Rnd.self hx true) g))
      rw [e]; exact Int.le_refl _
end Go.Proofs.Pl
