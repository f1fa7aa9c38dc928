/- Walk: arith.Add, for all numbers: the sum, rounded. -/
import Derived.Test.YteabdeohhmbclaaGreatAriKy
import Derived.Test.YteabdeohhmbclaaGreatPureAy
namespace Go.Proofs.YteabdeohhmbclaaGreat.Wk
open Go.RowKit Go.Proofs.Pl
set_option linter.unusedSimpArgs false
set_option linter.unusedVariables false

theorem sg_not (n : Bool) (A B : Nat) (h : B ≤ A) : sg n * (A : Int) + sg (!n) * (B : Int) = sg n * ((A - B : Nat) : Int) := by
 have : ((A - B : Nat) : Int) = (A : Int) - (B : Int) := by omega
 rw [this]
 cases n <;> simp [sg] <;> omega
theorem val_lt (M m k d : Nat) (hM0 : 9223372036854775808 ≤ M) (hm : m < 18446744073709551616) (h : 0 < d ∨ m < M) : m * 2 ^ k < M * 2 ^ (k + d) := by
 have hk : 0 < 2 ^ k := Nat.pow_pos (by decide)
 rw [Nat.pow_add, Nat.mul_comm (2 ^ k), ← Nat.mul_assoc]
 refine Nat.mul_lt_mul_of_pos_right ?_ hk
 rcases Nat.eq_zero_or_pos d with h0 | h0
 ·subst h0
  rw [Nat.pow_zero, Nat.mul_one]
  omega
 ·have : 2 ≤ 2 ^ d := by
   have := Nat.pow_le_pow_right (show 0 < 2 by decide) h0
   simpa using this
  have := Nat.mul_le_mul hM0 this
  omega
theorem minus_any (n : Bool) (M m : Nat) (ea eb : Int) (up : Bool) (hM0 : 9223372036854775808 ≤ M) (hM : M < 18446744073709551616) (hm0 : 9223372036854775808 ≤ m) (hm : m < 18446744073709551616) (ha0 : -1048576 ≤ ea) (ha1 : ea ≤ 1048576) (hb0 : -1048576 ≤ eb) (hb1 : eb ≤ 1048576) (h : eb < ea ∨ (eb = ea ∧ m < M)) :
  ∃ c : Num, Rnd (valN ⟨1, n, M, ea⟩ + valN ⟨1, !n, m, eb⟩) up c ∧ ∀ w, Calls Tryz.prog 84 #[.agg #[.i 1, .b n, .u M, .i ea], .agg #[.i 1, .b (!n), .u m, .i eb], .b up] w fun x w' => x = .returned (.agg #[.i (c).k, .b (c).n, .u (c).m, .i (c).e]) ∧ Below w.heap.size w w' := by
 have hBB : BB = 1048704 := rfl
 obtain ⟨k, hk⟩ := Int.eq_ofNat_of_zero_le (show 0 ≤ eb + BB by omega)
 obtain ⟨d, hd⟩ := Int.eq_ofNat_of_zero_le (show 0 ≤ ea - eb by omega)
 have hlt := val_lt M m k d hM0 hm (by omega)
 obtain ⟨c, hR, hC⟩ := minus_calls n (!n) M m ea eb d k up hM0 hM hm0 hm ha0 ha1 hb0 hb1 hk hd hlt
 refine ⟨c, ?_, hC⟩
 rw [valN_nat n M ea (k + d) (by omega), valN_nat (!n) m eb k hk, sg_not n _ _ (Nat.le_of_lt hlt)]
 exact hR
theorem plus_any (n : Bool) (M m : Nat) (ea eb : Int) (up : Bool) (hM0 : 9223372036854775808 ≤ M) (hM : M < 18446744073709551616) (hm0 : 9223372036854775808 ≤ m) (hm : m < 18446744073709551616) (ha0 : -1048576 ≤ ea) (ha1 : ea ≤ 1048576) (hb0 : -1048576 ≤ eb) (hb1 : eb ≤ 1048576) (h : eb ≤ ea) :
  ∃ c : Num, Rnd (valN ⟨1, n, M, ea⟩ + valN ⟨1, n, m, eb⟩) up c ∧ ∀ w, Calls Tryz.prog 83 #[.agg #[.i 1, .b n, .u M, .i ea], .agg #[.i 1, .b n, .u m, .i eb], .b up] w fun x w' => x = .returned (.agg #[.i (c).k, .b (c).n, .u (c).m, .i (c).e]) ∧ Below w.heap.size w w' := by
 have hBB : BB = 1048704 := rfl
 obtain ⟨k, hk⟩ := Int.eq_ofNat_of_zero_le (show 0 ≤ eb + BB by omega)
 obtain ⟨d, hd⟩ := Int.eq_ofNat_of_zero_le (show 0 ≤ ea - eb by omega)
 exact ⟨_, plus_rnd n M m ea eb d k up hM0 hM (by omega) hm hk hd, fun w => plus_calls n n M m ea eb d up hM0 hM (by omega) hm ha0 ha1 hb0 hb1 hd w⟩
theorem add_calls (x y : Num) (wx : Wf x) (wy : Wf y) (up : Bool) : ∃ c : Num, AddR (fairN x) (fairN y) up c ∧ ∀ w, Calls Tryz.prog 74 #[.agg #[.i (x).k, .b (x).n, .u (x).m, .i (x).e], .agg #[.i (y).k, .b (y).n, .u (y).m, .i (y).e], .b up] w fun e w' => e = .returned (.agg #[.i (c).k, .b (c).n, .u (c).m, .i (c).e]) ∧ Below w.heap.size w w' := by
 have mF := mayN_fair x
 have mG := mayN_fair y
 have wF := fairN_wf wx
 have wG := fairN_wf wy
 obtain ⟨x0, x1, x2, x3⟩ := x
 obtain ⟨y0, y1, y2, y3⟩ := y
 obtain ⟨F, hF⟩ : ∃ F, fairN ⟨x0, x1, x2, x3⟩ = F := ⟨_, rfl⟩
 obtain ⟨G, hG⟩ : ∃ G, fairN ⟨y0, y1, y2, y3⟩ = G := ⟨_, rfl⟩
 rw [hF] at mF wF ⊢
 rw [hG] at mG wG ⊢
 obtain ⟨f0, f1, f2, f3⟩ := F
 obtain ⟨g0, g1, g2, g3⟩ := G
 dsimp only
 have zF : Rnd (valN ⟨f0, f1, f2, f3⟩) up ⟨f0, f1, f2, f3⟩ ∨ f0 = 2 := by
  by_cases h : f0 = 2
  ·exact .inr h
  ·exact .inl (Rnd.self ⟨mF, h, wF⟩ up)
 have zG : Rnd (valN ⟨g0, g1, g2, g3⟩) up ⟨g0, g1, g2, g3⟩ ∨ g0 = 2 := by
  by_cases h : g0 = 2
  ·exact .inr h
  ·exact .inl (Rnd.self ⟨mG, h, wG⟩ up)
 by_cases i1 : f0 = 2
 ·subst i1
  by_cases i2 : g0 = 2 ∧ f1 ≠ g1
  ·obtain ⟨rfl, hne⟩ := i2
   exact ⟨infN (!up), .inl ⟨rfl, rfl, hne, rfl⟩, fun w => add_inf x0 x1 x2 x3 y0 y1 y2 y3 up f1 f2 f3 g1 g2 g3 hne hF hG w⟩
  ·have hc : g0 ≠ 2 ∨ f1 = g1 := by
    by_cases hg : g0 = 2
    ·right
     by_cases hfg : f1 = g1
     ·exact hfg
     ·exact absurd ⟨hg, hfg⟩ i2
    ·exact .inl hg
   exact ⟨⟨2, f1, f2, f3⟩, .inr (.inl ⟨rfl, hc, rfl⟩), fun w => add_first x0 x1 x2 x3 y0 y1 y2 y3 up 2 f1 f2 f3 g0 g1 g2 g3 (.inl ⟨rfl, hc⟩) hF hG w⟩
 ·have zF' := zF.resolve_right i1
  by_cases i2 : g0 = 0
  ·subst i2
   rcases may_cases mG with ⟨_, h1, h2, h3⟩ | ⟨h, _⟩ | ⟨h, _⟩
   ·dsimp only at h1 h2 h3
    subst h1 h2 h3
    refine ⟨⟨f0, f1, f2, f3⟩, .inr (.inr (.inr ⟨i1, by decide, ?_⟩)), fun w => add_first x0 x1 x2 x3 y0 y1 y2 y3 up f0 f1 f2 f3 0 false 0 0 (.inr ⟨i1, rfl⟩) hF hG w⟩
    rw [valN_zero, Int.add_zero]
    exact zF'
   ·cases h
   ·cases h
  ·by_cases i3 : g0 = 2
   ·subst i3
    exact ⟨⟨2, g1, g2, g3⟩, .inr (.inr (.inl ⟨i1, rfl, rfl⟩)), fun w => add_second x0 x1 x2 x3 y0 y1 y2 y3 up f0 f1 f2 f3 2 g1 g2 g3 ⟨i1, by decide, .inl rfl⟩ hF hG w⟩
   ·have zG' := zG.resolve_right i3
    by_cases i4 : f0 = 0
    ·subst i4
     rcases may_cases mF with ⟨_, h1, h2, h3⟩ | ⟨h, _⟩ | ⟨h, _⟩
     ·dsimp only at h1 h2 h3
      subst h1 h2 h3
      refine ⟨⟨g0, g1, g2, g3⟩, .inr (.inr (.inr ⟨i1, i3, ?_⟩)), fun w => add_second x0 x1 x2 x3 y0 y1 y2 y3 up 0 false 0 0 g0 g1 g2 g3 ⟨i1, i2, .inr ⟨i3, rfl⟩⟩ hF hG w⟩
      rw [valN_zero, Int.zero_add]
      exact zG'
     ·cases h
     ·cases h
    ·rcases may_cases mF with ⟨h, _⟩ | ⟨hf, hf1, hf2, hf3⟩ | ⟨h, _⟩
     ·exact absurd h i4
     ·rcases may_cases mG with ⟨h, _⟩ | ⟨hg, hg1, hg2, hg3⟩ | ⟨h, _⟩
      ·exact absurd h i2
      ·dsimp only at hf hf1 hf2 hf3 hg hg1 hg2 hg3
       subst hf hg
       unfold Wf at wF wG
       dsimp only at wF wG
       obtain ⟨M, rfl⟩ := Int.eq_ofNat_of_zero_le wF.1
       obtain ⟨m, rfl⟩ := Int.eq_ofNat_of_zero_le wG.1
       have fin : ∀ c, Rnd (valN ⟨1, f1, (M : Int), f3⟩ + valN ⟨1, g1, (m : Int), g3⟩) up c → AddR ⟨1, f1, (M : Int), f3⟩ ⟨1, g1, (m : Int), g3⟩ up c := fun c h => .inr (.inr (.inr ⟨(show (1 : Int) ≠ 2 by decide), (show (1 : Int) ≠ 2 by decide), h⟩))
       by_cases hs : f1 = g1
       ·subst hs
        by_cases hns : g3 < f3 ∨ (g3 = f3 ∧ (m : Int) ≤ M)
        ·obtain ⟨c, h1, h2⟩ := plus_any f1 M m f3 g3 up (by omega) (by omega) (by omega) (by omega) hf2 hf3 hg2 hg3 (by omega)
         exact ⟨c, fin c h1, fun w => add_same x0 x1 x2 x3 y0 y1 y2 y3 up f1 M f3 m g3 c hns hF hG h2 w⟩
        ·obtain ⟨c, h1, h2⟩ := plus_any f1 m M g3 f3 up (by omega) (by omega) (by omega) (by omega) hg2 hg3 hf2 hf3 (by omega)
         exact ⟨c, fin c (by rw [Int.add_comm]; exact h1), fun w => add_same' x0 x1 x2 x3 y0 y1 y2 y3 up f1 M f3 m g3 c (by omega) hF hG h2 w⟩
       ·obtain rfl : g1 = !f1 := by cases f1 <;> cases g1 <;> simp_all
        by_cases heq : f3 = g3 ∧ M = m
        ·obtain ⟨rfl, rfl⟩ := heq
         refine ⟨⟨0, false, 0, 0⟩, fin _ ?_, fun w => add_none x0 x1 x2 x3 y0 y1 y2 y3 up f1 M f3 hF hG w⟩
         left
         refine ⟨?_, rfl⟩
         unfold valN
         cases f1 <;> simp <;> omega
        ·by_cases hns : g3 < f3 ∨ (g3 = f3 ∧ (m : Int) < M)
         ·obtain ⟨c, h1, h2⟩ := minus_any f1 M m f3 g3 up (by omega) (by omega) (by omega) (by omega) hf2 hf3 hg2 hg3 (by omega)
          exact ⟨c, fin c h1, fun w => add_opp x0 x1 x2 x3 y0 y1 y2 y3 up f1 M f3 m g3 c hns hF hG h2 w⟩
         ·obtain ⟨c, h1, h2⟩ := minus_any (!f1) m M g3 f3 up (by omega) (by omega) (by omega) (by omega) hg2 hg3 hf2 hf3 (by omega)
          rw [Bool.not_not] at h1 h2
          exact ⟨c, fin c (by rw [Int.add_comm]; exact h1), fun w => add_opp' x0 x1 x2 x3 y0 y1 y2 y3 up f1 M f3 m g3 c (by omega) hF hG h2 w⟩
      ·exact absurd h i3
     ·exact absurd h i1
theorem addN_calls (x y : Num) (wx : Wf x) (wy : Wf y) (up : Bool) (w : World) : Calls Tryz.prog 74 #[.agg #[.i (x).k, .b (x).n, .u (x).m, .i (x).e], .agg #[.i (y).k, .b (y).n, .u (y).m, .i (y).e], .b up] w fun e w' => e = .returned (.agg #[.i (addN x y up).k, .b (addN x y up).n, .u (addN x y up).m, .i (addN x y up).e]) ∧ Below w.heap.size w w' := by
 obtain ⟨c, hc, h⟩ := add_calls x y wx wy up
 obtain rfl : c = addN x y up := hc.eq
 exact h w
end Go.Proofs.YteabdeohhmbclaaGreat.Wk
