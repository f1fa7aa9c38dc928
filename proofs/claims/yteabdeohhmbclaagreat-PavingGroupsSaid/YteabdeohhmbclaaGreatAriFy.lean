/- Walk: arith.minus is the difference, rounded. -/
import Derived.Test.YteabdeohhmbclaaGreatAriEy
import Derived.Test.YteabdeohhmbclaaGreatPureAy
import Derived.Laws.BitsAllLaws
namespace Go.Proofs.YteabdeohhmbclaaGreat.Wk
open Go.RowKit Go.Proofs.Pl
set_option linter.unusedSimpArgs false
set_option linter.unusedVariables false

theorem or_words (H L u : Nat) (hu : u < 64) (hu0 : 0 < u) (hH : H * 2 ^ u < 18446744073709551616) (hL : L < 18446744073709551616) :
  L / 2 ^ (64 - u) = L * 2 ^ u / 18446744073709551616 ∧ bits .or .u64 ((H * 2 ^ u : Nat) : Int) ((L / 2 ^ (64 - u) : Nat) : Int) = ((H * 2 ^ u + L * 2 ^ u / 18446744073709551616 : Nat) : Int) := by
 have e64 := pw (W := 18446744073709551616) rfl (Nat.le_of_lt hu)
 have hp : 0 < 2 ^ u := Nat.pow_pos (by decide)
 have e1 : L / 2 ^ (64 - u) = L * 2 ^ u / 18446744073709551616 := by
  have := Nat.mul_div_mul_right L (2 ^ (64 - u)) hp
  rw [Nat.mul_comm (2 ^ (64 - u)), ← e64] at this
  exact this.symm
 refine ⟨e1, ?_⟩
 have hq : L / 2 ^ (64 - u) < 2 ^ u := by
  rw [Nat.div_lt_iff_lt_mul (Nat.pow_pos (by decide)), ← e64]
  exact hL
 rw [u64_or_nat _ _ hH (by rw [e1]; exact Nat.lt_of_lt_of_le (by rw [← e1]; exact hq) (by rw [e64]; exact Nat.le_mul_of_pos_right _ (Nat.pow_pos (by decide))))]
 have := Nat.two_pow_add_eq_or_of_lt hq H
 rw [Nat.mul_comm H, ← this, e1]
theorem minus_fin (n n' : Bool) (M m : Nat) (ea eb : Int) (d k : Nat) (up : Bool) (b H L H1 L1 K r0 s : Nat) (e1 : Int) (hM : M < 18446744073709551616) (hm : m < 18446744073709551616) (ha0 : -1048576 ≤ ea) (ha1 : ea ≤ 1048576) (hdd : d ≤ 4194304) (hd : ea - eb = d)
  (hb : b = (if 0 < lowLo m d + (if lowCut m d = true then 1 else 0) then 1 else 0)) (hb1 : b ≤ 1) (hb2 : lowHi m d + b ≤ M) (hL : L = (18446744073709551616 - lowLo m d - (if lowCut m d = true then 1 else 0)) % 18446744073709551616) (hH : H = (M + 18446744073709551616 - lowHi m d - b) % 18446744073709551616)
  (hcase : ((H : Int) = 0 ∧ (H1 : Int) = (L : Int) ∧ (L1 : Int) = 0 ∧ e1 = ea - 64) ∨ ((H : Int) ≠ 0 ∧ (H1 : Int) = (H : Int) ∧ (L1 : Int) = (L : Int) ∧ e1 = ea))
  (hH10 : 0 < H1) (hH11 : H1 < 18446744073709551616) (hL11 : L1 < 18446744073709551616) (hK : 64 ≤ K) (hKe : (K : Int) - BB = e1) (hS : s * 18446744073709551616 = (H1 * 18446744073709551616 + L1) * 2 ^ K + r0) (hr0 : r0 < 2 ^ K) (hc : lowCut m d = true ↔ r0 ≠ 0) :
  ∃ c : Num, Rnd (sg n * (s : Int)) up c ∧ ∀ w, Calls Tryz.prog 84 #[.agg #[.i 1, .b n, .u M, .i ea], .agg #[.i 1, .b n', .u m, .i eb], .b up] w fun x w' => x = .returned (.agg #[.i (c).k, .b (c).n, .u (c).m, .i (c).e]) ∧ Below w.heap.size w w' := by
 obtain ⟨u, hu1, hu2, hu3, hu4⟩ := lead_spec H1 hH10 hH11
 obtain ⟨r', hN, hr'⟩ := up_norm 18446744073709551616 rfl s H1 L1 K u r0 (by omega) hu2 hS hr0 hL11 hu3 hu4
 have hNb := hN.2.2
 refine ⟨growN n ((H1 * 2 ^ u + L1 * 2 ^ u / 18446744073709551616 : Nat) : Int) (e1 - u) (decide (r' ≠ 0)) (up != n), rnd_of n s _ (K - u) r' hN up (e1 - u) (by omega), fun w => ?_⟩
 have hcut : decide (r' ≠ 0) = (lowCut m d || decide (((L1 * 2 ^ u % 18446744073709551616 : Nat) : Int) ≠ 0)) := by
  rw [Bool.eq_iff_iff, decide_eq_true_iff, hr', Bool.or_eq_true, decide_eq_true_iff, hc]
  constructor
  ·rintro (h | h)
   ·exact .inr (by omega)
   ·exact .inl h
  ·rintro (h | h)
   ·exact .inr h
   ·exact .inl (by omega)
 have he1 : -1048640 ≤ e1 ∧ e1 ≤ 1048576 := by rcases hcase with ⟨_, _, _, h⟩ | ⟨_, _, _, h⟩ <;> omega
 refine minus_walk n n' M m ea eb d up (lowHi m d) (lowLo m d) (if lowCut m d = true then 1 else 0) L b H H1 L1 e1 ((H1 * 2 ^ u : Nat) : Int) ((L1 / 2 ^ (64 - u) : Nat) : Int) ((H1 * 2 ^ u + L1 * 2 ^ u / 18446744073709551616 : Nat) : Int) ((L1 * 2 ^ u % 18446744073709551616 : Nat) : Int) (e1 - u) (lowCut m d) (decide (r' ≠ 0)) u (growN n ((H1 * 2 ^ u + L1 * 2 ^ u / 18446744073709551616 : Nat) : Int) (e1 - u) (decide (r' ≠ 0)) (up != n)) hd (by omega) rfl hcase ⟨ha0, ha1⟩ hu2 ?_ rfl ?_ ?_ ?_ ?_ hcut w (fun W => lower_calls m d hm hdd W) ?_ ?_ ?_ ?_
 ·rintro rfl
  refine ⟨?_, ?_, by omega⟩
  ·rw [Nat.pow_zero, Nat.mul_one, Nat.mul_one, Nat.div_eq_of_lt hL11, Nat.add_zero]
  ·rw [Nat.pow_zero, Nat.mul_one, Nat.mod_eq_of_lt hL11]
 ·rw [cast_shl, Nat.mod_eq_of_lt hu4]
 ·exact fun _ => cast_shr L1 (64 - u)
 ·exact fun h => (or_words H1 L1 u hu2 h hu4 hL11).2
 ·exact cast_shl L1 u
 ·intro W
  cases hct : lowCut m d
  ·rw [hct] at hL hb
   have := sub64_run 0 (lowLo m d) 0 (by omega) W
   rw [Nat.zero_add] at this
   simp only [Bool.false_eq_true, if_false] at hL hb ⊢
   rw [← hL, ← hb] at this
   exact this
  ·rw [hct] at hL hb
   have := sub64_run 0 (lowLo m d) 1 (by omega) W
   rw [Nat.zero_add] at this
   simp only [if_true] at hL hb ⊢
   rw [← hL, ← hb] at this
   exact this
 ·intro W
  have := sub64_run M (lowHi m d) b hb1 W
  rw [← hH, if_neg (show ¬ M < lowHi m d + b by omega)] at this
  exact this
 ·intro W
  have := lead64_calls (H1 : Int) (by omega) (by omega) W
  rw [Int.toNat_natCast, hu1] at this
  exact this
 ·exact fun W => grow_calls n _ (e1 - u) _ _ (by omega) (by omega) (by omega) (by omega) W
theorem minus_calls (n n' : Bool) (M m : Nat) (ea eb : Int) (d k : Nat) (up : Bool) (hM0 : 9223372036854775808 ≤ M) (hM : M < 18446744073709551616) (hm0 : 9223372036854775808 ≤ m) (hm : m < 18446744073709551616) (ha0 : -1048576 ≤ ea) (ha1 : ea ≤ 1048576) (hb0 : -1048576 ≤ eb) (hb1 : eb ≤ 1048576) (hk : eb + BB = k) (hd : ea - eb = d) (hlt : m * 2 ^ k < M * 2 ^ (k + d)) :
  ∃ c : Num, Rnd (sg n * ((M * 2 ^ (k + d) - m * 2 ^ k : Nat) : Int)) up c ∧ ∀ w, Calls Tryz.prog 84 #[.agg #[.i 1, .b n, .u M, .i ea], .agg #[.i 1, .b n', .u m, .i eb], .b up] w fun x w' => x = .returned (.agg #[.i (c).k, .b (c).n, .u (c).m, .i (c).e]) ∧ Below w.heap.size w w' := by
 have hBB : BB = 1048704 := rfl
 obtain ⟨b, H, L, r, h1, h2, h3, h4, h5, h6, h7, h8, h9, h10, h11⟩ := minus_parts M m d k hM0 hM hm0 hm (by omega) hlt
 by_cases hH : H = 0
 ·obtain ⟨hL0, hct⟩ := h8 hH
  have hr : r = 0 := by
   rcases Nat.eq_zero_or_pos r with h | h
   ·exact h
   ·have := h9.2 (by omega)
    rw [hct] at this
    cases this
  refine minus_fin n n' M m ea eb d k up b H L L 0 (k + d - 64) 0 _ (ea - 64) hM hm ha0 ha1 (by omega) hd h1 h2 h3 h4 h6 (Or.inl ⟨by omega, rfl, rfl, rfl⟩) (by omega) h5 (by omega) (by omega) (by omega) ?_ (Nat.pow_pos (by decide)) ?_
  ·rw [h10, hH, hr, Nat.zero_mul, Nat.zero_add, Nat.add_zero, Nat.add_zero]
   have e2 : (2 : Nat) ^ (k + d) = 18446744073709551616 * 2 ^ (k + d - 64) := by
    have := Nat.pow_add 2 64 (k + d - 64)
    rw [W64, show 64 + (k + d - 64) = k + d from by omega] at this
    exact this
   rw [e2, Nat.add_zero, Nat.mul_assoc]
  ·rw [hct]; simp
 ·exact minus_fin n n' M m ea eb d k up b H L H L (k + d) r _ ea hM hm ha0 ha1 (by omega) hd h1 h2 h3 h4 h6 (Or.inr ⟨by omega, rfl, rfl, rfl⟩) (by omega) h7 h5 (by omega) (by omega) h10 h11 h9
end Go.Proofs.YteabdeohhmbclaaGreat.Wk
