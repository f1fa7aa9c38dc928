/- Plain: sums and products of numbers by their odd numbers; bounds. Nothing of Go. -/
import Derived.Test.YtagojbgmgkkdpaaR5Cm
namespace Go.Proofs.Ytagojbgmgkkdpaa.Wk
open Go.Proofs.Pl
set_option linter.unusedSimpArgs false
set_option linter.unusedVariables false

theorem ex_val {f : Num} (hm : mayN f = true) (hk : f.k ≠ 2) (hw : Wf f) (i : Nat) (hi : dyE f.m.toNat f.e = -BB + i) :
    sgnZ (f.n && decide (0 < f.m.toNat)) (oddN f.m.toNat * 2 ^ i) = valN f := by
  unfold Wf at hw
  rcases Nat.eq_zero_or_pos f.m.toNat with h0 | h0
  · rw [h0, oddN_zero, Nat.zero_mul, sgnZ_zero]
    unfold valN
    rw [show f.m = 0 by omega, Int.zero_mul, Int.mul_zero]
  · rw [decide_eq_true h0, Bool.and_true, dyE_pos h0] at *
    unfold valN sgnZ
    obtain ⟨j, hj⟩ : ∃ j : Nat, f.e + BB = j := ⟨(f.e + BB).toNat, by
      rcases may_cases hm with ⟨_, _, h, _⟩ | ⟨_, _, h1, h2⟩ | ⟨h, _⟩
      · omega
      · unfold BB; omega
      · exact absurd h hk⟩
    have hij : i = twos f.m.toNat + j := by omega
    rw [hj, Int.toNat_natCast, hij, Nat.pow_add, ← Nat.mul_assoc, odd_twos]
    have hM : f.m = (f.m.toNat : Int) := by omega
    generalize f.m.toNat = M at hM
    rw [hM]
    cases f.n <;> simp [Int.natCast_mul]
theorem round_sgn (n n' : Bool) (s : Nat) (e : Int) (up : Bool) (h : 0 < s → n = n') : roundAt n s e up = roundAt n' s e up := by
  rcases Nat.eq_zero_or_pos s with h0 | h0
  · subst h0; rfl
  · rw [h h0]
/-- the sum's rounding, by its odd number -/
theorem add_round (V : Int) (up : Bool) : roundAt (decide (V < 0) && decide (0 < V.natAbs)) (oddN V.natAbs) (dyE V.natAbs (-BB)) up = roundAt (decide (V < 0)) V.natAbs (-BB) up := by
  rw [round_dy]
  exact round_sgn _ _ _ _ _ fun h => by rw [decide_eq_true h, Bool.and_true]
theorem mul_round (fn gn up : Bool) (X Y : Nat) (e d : Int) :
    roundAt (((fn && decide (0 < X)) != (gn && decide (0 < Y))) && decide (0 < oddN X * oddN Y)) (oddN (oddN X * oddN Y)) (dyE (oddN X * oddN Y) (dyE X e + dyE Y d)) up = roundAt (fn != gn) (X * Y) (e + d) up := by
  rw [round_dy]
  by_cases h0 : 0 < X ∧ 0 < Y
  · obtain ⟨hx, hy⟩ := h0
    have hP : 0 < oddN X * oddN Y := Nat.mul_pos (oddN_pos.2 hx) (oddN_pos.2 hy)
    have hXY : X * Y = oddN X * oddN Y * 2 ^ (twos X + twos Y) := by
      conv => lhs; rw [← odd_twos X, ← odd_twos Y]
      rw [Nat.pow_add]
      ac_rfl
    rw [decide_eq_true hx, decide_eq_true hy, decide_eq_true hP, Bool.and_true, Bool.and_true, Bool.and_true, dyE_pos hx, dyE_pos hy, hXY, round_pow]
    congr 1
    omega
  · have hz : X * Y = 0 := by
      rcases Nat.eq_zero_or_pos X with h1 | h1
      · rw [h1, Nat.zero_mul]
      · rw [show Y = 0 by omega, Nat.mul_zero]
    have hz' : oddN X * oddN Y = 0 := by
      rcases Nat.eq_zero_or_pos X with h1 | h1
      · rw [h1, oddN_zero, Nat.zero_mul]
      · rw [show Y = 0 by omega, oddN_zero, Nat.mul_zero]
    rw [hz, hz']
    rfl
theorem two_le (na nb : Bool) {X Y i j c : Nat} {e0 B : Int} (hX : X < 2 ^ c) (hY : Y < 2 ^ c) (hB : 0 ≤ B) (hi1 : -B ≤ e0 + i) (hj2 : e0 + j ≤ B) (hij : i ≤ j) {b : Nat} (hb : (b : Int) = 2 * B + c + 8) {V : Int} (hV : V = sgnZ na (X * 2 ^ i) + sgnZ nb (Y * 2 ^ j)) :
    oddN V.natAbs < 2 ^ b ∧ -B ≤ dyE V.natAbs e0 ∧ dyE V.natAbs e0 ≤ B + b := by
  have hV2 : V = (sgnZ na X + sgnZ nb (Y * 2 ^ (j - i))) * ((2 ^ i : Nat) : Int) := by
    rw [hV, Int.add_mul, ← sgnZ_mul, ← sgnZ_mul, Nat.mul_assoc, ← Nat.pow_add, Nat.sub_add_cancel hij]
  have hn : V.natAbs = (sgnZ na X + sgnZ nb (Y * 2 ^ (j - i))).natAbs * 2 ^ i := by rw [hV2, Int.natAbs_mul]; rfl
  obtain ⟨d1, d2⟩ := dy_pow (sgnZ na X + sgnZ nb (Y * 2 ^ (j - i))).natAbs i e0
  have hY2 : Y * 2 ^ (j - i) < 2 ^ (b - 8) := by
    have h1 := Nat.mul_lt_mul_of_lt_of_le hY (Nat.le_refl (2 ^ (j - i))) (Nat.pow_pos (by decide))
    rw [← Nat.pow_add] at h1
    exact Nat.lt_of_lt_of_le h1 (Nat.pow_le_pow_right (by decide) (by omega))
  have hX2 : X < 2 ^ (b - 8) := Nat.lt_of_lt_of_le hX (Nat.pow_le_pow_right (by decide) (by omega))
  have hZ : (sgnZ na X + sgnZ nb (Y * 2 ^ (j - i))).natAbs < 2 ^ b := by
    have e1 : (2 : Nat) ^ b = 2 ^ (b - 8) * 256 := by rw [show b = b - 8 + 8 by omega, Nat.pow_add, show b - 8 + 8 - 8 = b - 8 by omega]
    have e2 : (sgnZ na X + sgnZ nb (Y * 2 ^ (j - i))).natAbs ≤ X + Y * 2 ^ (j - i) := by unfold sgnZ; split <;> split <;> omega
    rw [e1]
    generalize 2 ^ (b - 8) = P at hX2 hY2
    omega
  rw [hn, d1, d2]
  refine ⟨Nat.lt_of_le_of_lt (oddN_le _) hZ, ?_⟩
  have ht := twos_lt hZ
  unfold dyE
  split <;> omega
theorem two_bd (na nb : Bool) {X Y i j c : Nat} {e0 B : Int} (hX : X < 2 ^ c) (hY : Y < 2 ^ c) (hB : 0 ≤ B) (hi : -B ≤ e0 + i ∧ e0 + i ≤ B) (hj : -B ≤ e0 + j ∧ e0 + j ≤ B) {b : Nat} (hb : (b : Int) = 2 * B + c + 8) {V : Int} (hV : V = sgnZ na (X * 2 ^ i) + sgnZ nb (Y * 2 ^ j)) :
    oddN V.natAbs < 2 ^ b ∧ -B ≤ dyE V.natAbs e0 ∧ dyE V.natAbs e0 ≤ B + b := by
  rcases Nat.le_total i j with h | h
  · exact two_le na nb hX hY hB hi.1 hj.2 h hb hV
  · exact two_le nb na hY hX hB hj.1 hi.2 h hb (by rw [hV, Int.add_comm])
/-- where a rounded number's exponent lies -/
theorem round_e (n : Bool) {s : Nat} {e : Int} (up : Bool) (h : s ≠ 0) (h1 : -1048576 ≤ (s.log2 : Int) + e - 63) (h2 : (s.log2 : Int) + e - 63 < 1048576) :
    (s.log2 : Int) + e - 63 ≤ (roundAt n s e up).e ∧ (roundAt n s e up).e ≤ (s.log2 : Int) + e - 63 + 1 := by
  have bd : ∀ (m q : Int) (a : Bool), -1048576 ≤ q → q ≤ 1048576 → (boundN n m q a).e = q := by
    intro m q a g1 g2
    unfold boundN
    rw [if_neg (by omega), if_neg (by omega)]
  have gr : ∀ (m q : Int) (c a : Bool), -1048576 ≤ q → q < 1048576 → q ≤ (growN n m q c a).e ∧ (growN n m q c a).e ≤ q + 1 := by
    intro m q c a g1 g2
    unfold growN
    split
    · split
      · rw [bd _ _ _ (by omega) (by omega)]; omega
      · rw [bd _ _ _ (by omega) (by omega)]; omega
    · rw [bd _ _ _ (by omega) (by omega)]; omega
  unfold roundAt
  rw [if_neg h]
  split
  · have := gr ((s * 2 ^ (63 - s.log2) : Nat) : Int) (e - ((63 - s.log2 : Nat) : Int)) false (up != n) (by omega) (by omega)
    omega
  · have := gr ((s / 2 ^ (s.log2 - 63) : Nat) : Int) (e + ((s.log2 - 63 : Nat) : Int)) (decide (s % 2 ^ (s.log2 - 63) ≠ 0)) (up != n) (by omega) (by omega)
    omega
/-- the exponent of a number that may be and is finite is few -/
def FewE (x : Num) (B : Int) : Prop := -B ≤ (fairN x).e ∧ (fairN x).e ≤ B
theorem FewE.more {x : Num} {B C : Int} (h : FewE x B) (hc : B ≤ C) : FewE x C := by unfold FewE at h ⊢; omega
theorem FewE.fair {x : Num} {B : Int} (h : FewE x B) : FewE (fairN x) B := by unfold FewE at h ⊢; rwa [fairN_fair]
theorem val_form {f : Num} (hm : mayN f = true) (hk : f.k ≠ 2) (hw : Wf f) {B : Int} (he : -B ≤ f.e ∧ f.e ≤ B) (hB : 0 ≤ B) (hB2 : B ≤ 100000) :
    ∃ i : Nat, dyE f.m.toNat f.e = -BB + i ∧ valN f = sgnZ (f.n && decide (0 < f.m.toNat)) (oddN f.m.toNat * 2 ^ i) ∧ oddN f.m.toNat < 2 ^ 64 ∧ -B ≤ -BB + (i : Int) ∧ -BB + (i : Int) ≤ B + 64 := by
  have hlt : f.m.toNat < 2 ^ 64 := by unfold Wf at hw; rw [show (2 : Nat) ^ 64 = 18446744073709551616 from by decide]; omega
  have hd := dyE_bd hlt he.1 he.2
  refine ⟨(dyE f.m.toNat f.e + BB).toNat, ?_, ?_, Nat.lt_of_le_of_lt (oddN_le _) hlt, ?_, ?_⟩
  · unfold BB at *; omega
  · exact (ex_val hm hk hw _ (by unfold BB at *; omega)).symm
  · unfold BB at *; omega
  · unfold BB at *; omega
theorem addN_few {x y : Num} (wx : Wf x) (wy : Wf y) {B : Int} (hx : FewE x B) (hy : FewE y B) (hB : 0 ≤ B) (hB2 : B ≤ 10000) (up : Bool) : FewE (addN x y up) (5 * B + 900) := by
  have hm := addN_may wx wy up
  unfold FewE at hx hy ⊢
  rw [fairN_of hm.1]
  have mx := mayN_fair x
  have my := mayN_fair y
  have fx := fairN_wf wx
  have fy := fairN_wf wy
  unfold addN addF at *
  generalize fairN x = f at *
  generalize fairN y = g at *
  by_cases h1 : f.k = 2
  · have e0 : f.e = 0 := by rcases may_cases mx with ⟨h, _⟩ | ⟨h, _⟩ | ⟨_, _, h⟩ <;> omega
    by_cases h2 : g.k = 2 ∧ f.n ≠ g.n
    · rw [if_pos ⟨h1, h2.1, h2.2⟩]; unfold infN; simp only; omega
    · rw [if_neg (fun g => h2 g.2), if_pos h1]; omega
  · rw [if_neg (fun g => h1 g.1), if_neg h1]
    by_cases h2 : g.k = 2
    · rw [if_pos h2]; omega
    · rw [if_neg h2]
      obtain ⟨i, i1, i2, i3, i4, i5⟩ := val_form mx h1 fx hx hB (by omega)
      obtain ⟨j, j1, j2, j3, j4, j5⟩ := val_form my h2 fy hy hB (by omega)
      have hb := two_bd (f.n && decide (0 < f.m.toNat)) (g.n && decide (0 < g.m.toNat)) (i := i) (j := j) (e0 := -BB) (B := B + 64) (b := (2 * (B + 64) + 64 + 8).toNat) (V := valN f + valN g) i3 j3 (by omega) ⟨by omega, by omega⟩ ⟨by omega, by omega⟩ (by omega) (by rw [i2, j2])
      rw [← round_dy]
      obtain ⟨b1, b2, b3⟩ := hb
      rcases Nat.eq_zero_or_pos (valN f + valN g).natAbs with h0 | h0
      · rw [h0, oddN_zero]; unfold roundAt; rw [if_pos rfl]; unfold zero; simp only; omega
      · have o0 := oddN_pos.2 h0
        have hl : (oddN (valN f + valN g).natAbs).log2 < (2 * (B + 64) + 64 + 8).toNat := (Nat.log2_lt (by omega)).2 b1
        have hr := round_e (decide (valN f + valN g < 0)) (e := dyE (valN f + valN g).natAbs (-BB)) up (s := oddN (valN f + valN g).natAbs) (by omega) (by omega) (by omega)
        omega
end Go.Proofs.Ytagojbgmgkkdpaa.Wk
