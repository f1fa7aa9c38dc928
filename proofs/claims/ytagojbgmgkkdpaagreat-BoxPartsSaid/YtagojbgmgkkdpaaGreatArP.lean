/- Plain: sums, products, halves, middles, widths, halves of intervals, and wider ones, as functions; their order. Nothing of Go. -/
import Derived.Test.YtagojbgmgkkdpaaGreatAddR
namespace Go.Proofs.Pl
set_option linter.unusedSimpArgs false
set_option linter.unusedVariables false

/-- s times 2^e, rounded -/
def roundAt (n : Bool) (s : Nat) (e : Int) (up : Bool) : Num :=
 if s = 0 then zero
 else if s.log2 < 63 then growN n ((s * 2 ^ (63 - s.log2) : Nat) : Int) (e - ((63 - s.log2 : Nat) : Int)) false (up != n)
 else growN n ((s / 2 ^ (s.log2 - 63) : Nat) : Int) (e + ((s.log2 - 63 : Nat) : Int)) (decide (s % 2 ^ (s.log2 - 63) ≠ 0)) (up != n)
theorem norm_log {s m k r : Nat} (h : Norm s m k r) : s ≠ 0 ∧ s.log2 = k + 63 ∧ s / 2 ^ k = m ∧ s % 2 ^ k = r := by
 obtain ⟨h1, h2, h3, h4⟩ := h
 have hP : 0 < 2 ^ k := Nat.pow_pos (by decide)
 have e63 : (2 : Nat) ^ 63 = 9223372036854775808 := by decide
 have e64 : (2 : Nat) ^ 64 = 18446744073709551616 := by decide
 have hlo : 2 ^ (k + 63) ≤ s := by
  rw [h1, Nat.pow_add, e63, Nat.mul_comm]
  have := Nat.mul_le_mul_right (2 ^ k) h3
  omega
 have hhi : s < 2 ^ (k + 63 + 1) := by
  rw [Nat.add_assoc, Nat.pow_add, show 63 + 1 = 64 from rfl, e64, Nat.mul_comm, h1]
  have := Nat.mul_le_mul_right (2 ^ k) (show m + 1 ≤ 18446744073709551616 from h4)
  rw [Nat.add_mul, Nat.one_mul] at this
  omega
 have h0 : s ≠ 0 := by
  have : 0 < 2 ^ (k + 63) := Nat.pow_pos (by decide)
  omega
 refine ⟨h0, ?_, ?_, ?_⟩
 ·have a := (Nat.log2_lt h0).2 hhi
  have b : ¬ s.log2 < k + 63 := fun hh => by have := (Nat.log2_lt h0).1 hh; omega
  omega
 ·rw [h1, Nat.mul_comm, Nat.mul_add_div hP, Nat.div_eq_of_lt h2, Nat.add_zero]
 ·rw [h1, Nat.mul_comm, Nat.mul_add_mod, Nat.mod_eq_of_lt h2]
theorem norm_round {s m k r : Nat} (h : Norm s m k r) (n : Bool) (e : Int) (up : Bool) : roundAt n s e up = growN n m (e + k) (decide (r ≠ 0)) (up != n) := by
 obtain ⟨h0, h1, h2, h3⟩ := norm_log h
 unfold roundAt
 rw [if_neg h0, if_neg (by omega), h1, Nat.add_sub_cancel, h2, h3]
theorem log_of {s k : Nat} (h1 : 2 ^ k ≤ s) (h2 : s < 2 ^ (k + 1)) : s ≠ 0 ∧ s.log2 = k := by
 have h0 : s ≠ 0 := by
  have : 0 < 2 ^ k := Nat.pow_pos (by decide)
  omega
 have a := (Nat.log2_lt h0).2 h2
 have b : ¬ s.log2 < k := fun hh => by have := (Nat.log2_lt h0).1 hh; omega
 exact ⟨h0, by omega⟩
theorem log_le {s : Nat} (h : s ≠ 0) : 2 ^ s.log2 ≤ s ∧ s < 2 ^ (s.log2 + 1) := ⟨Nat.log2_self_le h, (Nat.log2_lt h).1 (Nat.lt_succ_self _)⟩
theorem norm_ex (s : Nat) (h : 9223372036854775808 ≤ s) : ∃ m k r, Norm s m k r := by
 have h0 : s ≠ 0 := by omega
 obtain ⟨h1, h2⟩ := log_le h0
 have e63 : (2 : Nat) ^ 63 = 9223372036854775808 := by decide
 have e64 : (2 : Nat) ^ 64 = 18446744073709551616 := by decide
 have hl : 63 ≤ s.log2 := by
  have : ¬ s.log2 < 63 := fun hh => by have := (Nat.log2_lt h0).1 hh; omega
  omega
 obtain ⟨k, hk⟩ : ∃ k, s.log2 = 63 + k := ⟨s.log2 - 63, by omega⟩
 have hP : 0 < 2 ^ k := Nat.pow_pos (by decide)
 rw [hk, Nat.pow_add, e63] at h1
 rw [hk, show 63 + k + 1 = 64 + k from by omega, Nat.pow_add, e64] at h2
 refine ⟨s / 2 ^ k, k, s % 2 ^ k, (by rw [Nat.mul_comm]; exact (Nat.div_add_mod s (2 ^ k)).symm), Nat.mod_lt _ hP, ?_, ?_⟩
 ·exact (Nat.le_div_iff_mul_le hP).2 h1
 ·exact (Nat.div_lt_iff_lt_mul hP).2 h2
theorem Rnd.eq_round {s : Int} {up : Bool} {c : Num} (h : Rnd s up c) : c = roundAt (decide (s < 0)) s.natAbs (-BB) up := by
 rcases h with ⟨rfl, rfl⟩ | ⟨m, k, r, h0, hN, rfl⟩
 ·rfl
 ·rw [norm_round hN, show -BB + (k : Int) = k - BB from by omega]
theorem rnd_round (s : Int) (up : Bool) (h : s = 0 ∨ 9223372036854775808 ≤ s.natAbs) : Rnd s up (roundAt (decide (s < 0)) s.natAbs (-BB) up) := by
 rcases h with rfl | h
 ·exact .inl ⟨rfl, rfl⟩
 ·obtain ⟨m, k, r, hN⟩ := norm_ex _ h
  refine .inr ⟨m, k, r, by intro h0; rw [h0] at h; simp at h, hN, ?_⟩
  rw [norm_round hN, show -BB + (k : Int) = k - BB from by omega]

/-- the sum of two that may be -/
def AddR (a b : Num) (up : Bool) (c : Num) : Prop :=
 (a.k = 2 ∧ b.k = 2 ∧ a.n ≠ b.n ∧ c = infN (!up)) ∨ (a.k = 2 ∧ (b.k ≠ 2 ∨ a.n = b.n) ∧ c = a) ∨ (a.k ≠ 2 ∧ b.k = 2 ∧ c = b) ∨ (a.k ≠ 2 ∧ b.k ≠ 2 ∧ Rnd (valN a + valN b) up c)
theorem valN_zero : valN ⟨0, false, 0, 0⟩ = 0 := by unfold valN; simp
def addF (a b : Num) (up : Bool) : Num :=
 if a.k = 2 ∧ b.k = 2 ∧ a.n ≠ b.n then infN (!up) else if a.k = 2 then a else if b.k = 2 then b
 else roundAt (decide (valN a + valN b < 0)) (valN a + valN b).natAbs (-BB) up
def addN (x y : Num) (up : Bool) : Num := addF (fairN x) (fairN y) up
theorem AddR.eq {a b c : Num} {up : Bool} (h : AddR a b up c) : c = addF a b up := by
 unfold addF
 rcases h with ⟨h1, h2, h3, rfl⟩ | ⟨h1, h2, rfl⟩ | ⟨h1, h2, rfl⟩ | ⟨h1, h2, h3⟩
 ·rw [if_pos ⟨h1, h2, h3⟩]
 ·rw [if_neg (fun g => by rcases h2 with h | h; exact h g.2.1; exact g.2.2 h), if_pos h1]
 ·rw [if_neg (fun g => h1 g.1), if_neg h1, if_pos h2]
 ·rw [if_neg (fun g => h1 g.1), if_neg h1, if_neg h2]
  exact h3.eq_round
theorem val_mult {x : Num} (h : mayN x = true) (hk : x.k ≠ 2) (w : Wf x) : ∃ q : Int, valN x = q * 340282366920938463463374607431768211456 := by
 obtain ⟨k, n, m, e⟩ := x
 rcases may_cases h with ⟨h1, h2, h3, h4⟩ | ⟨h1, h2, h3, h4⟩ | ⟨h1, _⟩
 ·simp only at h1 h2 h3 h4
  subst h1 h2 h3 h4
  exact ⟨0, by rw [valN_zero]; rfl⟩
 ·simp only at h1 h2 h3 h4
  subst h1
  unfold Wf at w
  simp only at w
  obtain ⟨M, rfl⟩ := Int.eq_ofNat_of_zero_le w.1
  obtain ⟨j, hj⟩ := Int.eq_ofNat_of_zero_le (show 0 ≤ e + BB - 128 by unfold BB; omega)
  rw [valN_nat n M e (j + 128) (by rw [Int.natCast_add]; show e + BB = (j : Int) + 128; omega), Nat.pow_add, show (2 : Nat) ^ 128 = 340282366920938463463374607431768211456 from by decide]
  refine ⟨sg n * (M * 2 ^ j : Nat), ?_⟩
  rw [Int.mul_assoc, ← Nat.mul_assoc, Int.natCast_mul (M * 2 ^ j)]
  rfl
 ·exact absurd h1 hk
theorem addF_rel {a b : Num} (ma : mayN a = true) (mb : mayN b = true) (wa : Wf a) (wb : Wf b) (up : Bool) : AddR a b up (addF a b up) := by
 unfold addF
 by_cases h1 : a.k = 2
 ·by_cases h2 : b.k = 2 ∧ a.n ≠ b.n
  ·rw [if_pos ⟨h1, h2.1, h2.2⟩]; exact .inl ⟨h1, h2.1, h2.2, rfl⟩
  ·rw [if_neg (fun g => h2 g.2), if_pos h1]
   refine .inr (.inl ⟨h1, ?_, rfl⟩)
   by_cases h3 : b.k = 2
   ·right
    by_cases h4 : a.n = b.n
    ·exact h4
    ·exact absurd ⟨h3, h4⟩ h2
   ·exact .inl h3
 ·rw [if_neg (fun g => h1 g.1), if_neg h1]
  by_cases h2 : b.k = 2
  ·rw [if_pos h2]; exact .inr (.inr (.inl ⟨h1, h2, rfl⟩))
  ·rw [if_neg h2]
   refine .inr (.inr (.inr ⟨h1, h2, rnd_round _ _ ?_⟩))
   obtain ⟨p, hp⟩ := val_mult ma h1 wa
   obtain ⟨q, hq⟩ := val_mult mb h2 wb
   rw [hp, hq]
   omega
theorem addN_rel {x y : Num} (wx : Wf x) (wy : Wf y) (up : Bool) : AddR (fairN x) (fairN y) up (addN x y up) := addF_rel (mayN_fair x) (mayN_fair y) (fairN_wf wx) (fairN_wf wy) up
theorem AddR.may {a b c : Num} {up : Bool} (h : AddR a b up c) (ma : mayN a = true) (mb : mayN b = true) (wa : Wf a) (wb : Wf b) : mayN c = true ∧ Wf c := by
 rcases h with ⟨_, _, _, rfl⟩ | ⟨_, _, rfl⟩ | ⟨_, _, rfl⟩ | ⟨_, _, h⟩
 ·exact ⟨may_inf _, wf_inf _⟩
 ·exact ⟨ma, wa⟩
 ·exact ⟨mb, wb⟩
 ·exact h.may
theorem addN_may {x y : Num} (wx : Wf x) (wy : Wf y) (up : Bool) : mayN (addN x y up) = true ∧ Wf (addN x y up) := (addN_rel wx wy up).may (mayN_fair x) (mayN_fair y) (fairN_wf wx) (fairN_wf wy)
theorem inf_of {z : Num} (h : mayN z = true) (k : z.k = 2) : z = infN z.n := by
 rcases may_cases h with ⟨h1, _⟩ | ⟨h1, _⟩ | ⟨h1, h2, h3⟩
 ·omega
 ·omega
 ·exact Num.ext h1 rfl h2 h3
theorem inf_key {z : Num} (h : mayN z = true) (k : z.k = 2) : key z = if z.n = true then -TOP else TOP := (congrArg key (inf_of h k)).trans (key_inf _)
theorem fin_key {z : Num} (h : mayN z = true) (w : Wf z) (k : z.k ≠ 2) : -TOP < key z ∧ key z < TOP := by
 have b := key_bd h w
 have n1 : key z ≠ TOP := fun e => by
  have := (eq_inf h w false).2 (by rw [e, key_inf]; rfl)
  rw [this] at k; exact k rfl
 have n2 : key z ≠ -TOP := fun e => by
  have := (eq_inf h w true).2 (by rw [e, key_inf]; rfl)
  rw [this] at k; exact k rfl
 omega
theorem key_k {z : Num} (h : mayN z = true) (w : Wf z) (hk : -TOP < key z ∧ key z < TOP) : z.k ≠ 2 := fun e => by
 have := inf_key h e
 split at this <;> omega
theorem AddR.cls {a b c : Num} {up : Bool} (h : AddR a b up c) (ma : mayN a = true) (mb : mayN b = true) (wa : Wf a) (wb : Wf b) :
  (up = true ∧ (key a = TOP ∨ key b = TOP) ∧ key c = TOP) ∨ (up = true ∧ key a < TOP ∧ key b < TOP ∧ (key a = -TOP ∨ key b = -TOP) ∧ key c = -TOP) ∨
  (up = false ∧ (key a = -TOP ∨ key b = -TOP) ∧ key c = -TOP) ∨ (up = false ∧ -TOP < key a ∧ -TOP < key b ∧ (key a = TOP ∨ key b = TOP) ∧ key c = TOP) ∨
  ((-TOP < key a ∧ key a < TOP ∧ -TOP < key b ∧ key b < TOP) ∧ Finite a ∧ Finite b ∧ Rnd (valN a + valN b) up c) := by
 have T0 : 0 < TOP := by unfold TOP; decide
 have ba := key_bd ma wa
 have bb := key_bd mb wb
 rcases h with ⟨h1, h2, h3, rfl⟩ | ⟨h1, h2, rfl⟩ | ⟨h1, h2, rfl⟩ | ⟨h1, h2, h3⟩
 ·have ka := inf_key ma h1
  have kb := inf_key mb h2
  rw [key_inf]
  cases up <;> cases ha : a.n <;> cases hb : b.n <;> rw [ha] at h3 ka <;> rw [hb] at h3 kb <;> simp at h3 ka kb ⊢ <;> omega
 ·have ka := inf_key ma h1
  by_cases h4 : b.k = 2
  ·have kb := inf_key mb h4
   have h3 := h2.resolve_left (fun h => h h4)
   rw [← h3] at kb
   cases up <;> cases ha : c.n <;> rw [ha] at ka kb <;> simp at ka kb ⊢ <;> omega
  ·have fb := fin_key mb wb h4
   cases up <;> cases ha : c.n <;> rw [ha] at ka <;> simp at ka ⊢ <;> omega
 ·have fa := fin_key ma wa h1
  have kb := inf_key mb h2
  cases up <;> cases hb : c.n <;> rw [hb] at kb <;> simp at kb ⊢ <;> omega
 ·have fa := fin_key ma wa h1
  have fb := fin_key mb wb h2
  exact .inr (.inr (.inr (.inr ⟨⟨fa.1, fa.2, fb.1, fb.2⟩, ⟨ma, h1, wa⟩, ⟨mb, h2, wb⟩, h3⟩)))
/-- sums keep the order -/
theorem AddR.mono {a b c a' b' c' : Num} {up : Bool} (h : AddR a b up c) (g : AddR a' b' up c') (ma : mayN a = true) (mb : mayN b = true) (wa : Wf a) (wb : Wf b) (ma' : mayN a' = true) (mb' : mayN b' = true) (wa' : Wf a') (wb' : Wf b')
  (ha : key a ≤ key a') (hb : key b ≤ key b') : key c ≤ key c' := by
 have ba := key_bd ma wa
 have bb := key_bd mb wb
 have ba' := key_bd ma' wa'
 have bb' := key_bd mb' wb'
 have mc := h.may ma mb wa wb
 have mc' := g.may ma' mb' wa' wb'
 have bc := key_bd mc.1 mc.2
 have bc' := key_bd mc'.1 mc'.2
 rcases h.cls ma mb wa wb with h | h | h | h | ⟨h0, f1, f2, h⟩ <;> rcases g.cls ma' mb' wa' wb' with g | g | g | g | ⟨g0, g1, g2, g⟩
 all_goals first
  | omega
  | exact h.mono g (Int.add_le_add ((val_le f1 g1).2 ha) ((val_le f2 g2).2 hb))
  | (exfalso; cases up <;> simp at h g; done)
  | (cases up <;> simp_all <;> omega)
theorem addN_mono {x y x' y' : Num} (up : Bool) (wx : Wf x) (wy : Wf y) (wx' : Wf x') (wy' : Wf y') (hx : K x ≤ K x') (hy : K y ≤ K y') : key (addN x y up) ≤ key (addN x' y' up) :=
 (addN_rel wx wy up).mono (addN_rel wx' wy' up) (mayN_fair x) (mayN_fair y) (fairN_wf wx) (fairN_wf wy) (mayN_fair x') (mayN_fair y') (fairN_wf wx') (fairN_wf wy') hx hy
theorem addN_zero (x : Num) (wx : Wf x) (up : Bool) : addN x zero up = fairN x := by
 have h := addN_rel wx zero_wf up
 rw [fairN_of mayN_zero] at h
 have hz : zero.k = 0 := rfl
 rcases h with ⟨_, h2, _⟩ | ⟨_, _, h⟩ | ⟨_, h2, _⟩ | ⟨h1, _, h⟩
 ·omega
 ·exact h
 ·omega
 ·rw [show valN zero = 0 from valN_zero, Int.add_zero] at h
  exact h.uniq (Rnd.self ⟨mayN_fair x, h1, fairN_wf wx⟩ up)
/-! the opposite -/
theorem negN_all (x : Num) (wx : Wf x) : mayN (negN x) = true ∧ Wf (negN x) ∧ key (negN x) = -(K x) := by
 unfold negN K
 have h := may_cases (mayN_fair x)
 have w := fairN_wf wx
 generalize fairN x = y at h w
 obtain ⟨k, n, m, e⟩ := y
 unfold negF
 unfold Wf at w ⊢
 simp only at h w ⊢
 rcases h with ⟨rfl, rfl, rfl, rfl⟩ | ⟨rfl, h2, h3, h4⟩ | ⟨rfl, rfl, rfl⟩
 ·refine ⟨by decide, by decide, by decide⟩
 ·refine ⟨by unfold mayN; simp; omega, w, ?_⟩
  unfold key mag
  cases n <;> simp
 ·refine ⟨by unfold mayN; simp, by decide, ?_⟩
  unfold key mag
  cases n <;> simp
theorem K_neg (x : Num) (wx : Wf x) : K (negN x) = -(K x) := by
 have h := negN_all x wx
 rw [K_of h.1, h.2.2]
def subN (x y : Num) (up : Bool) : Num := addN x (negN y) up
theorem subN_may {x y : Num} (wx : Wf x) (wy : Wf y) (up : Bool) : mayN (subN x y up) = true ∧ Wf (subN x y up) := addN_may wx (negN_all y wy).2.1 up
theorem subN_mono {x y x' y' : Num} (up : Bool) (wx : Wf x) (wy : Wf y) (wx' : Wf x') (wy' : Wf y') (hx : K x ≤ K x') (hy : K y' ≤ K y) : key (subN x y up) ≤ key (subN x' y' up) :=
 addN_mono up wx (negN_all y wy).2.1 wx' (negN_all y' wy').2.1 hx (by rw [K_neg y wy, K_neg y' wy']; omega)
theorem neg_zero : negN zero = zero := by decide +kernel
theorem subN_zero (x : Num) (wx : Wf x) (up : Bool) : subN x zero up = fairN x := by unfold subN; rw [neg_zero]; exact addN_zero x wx up
theorem sign_K {x : Num} (wx : Wf x) : signN x = if K x < 0 then -1 else if 0 < K x then 1 else 0 := by
 have h := sign_key (mayN_fair x) (fairN_wf wx)
 unfold signN at h ⊢
 rw [fairN_fair] at h
 exact h
/-! the product -/
def mulF (a b : Num) (up : Bool) : Num :=
 if a.k = 0 ∨ b.k = 0 then zero else if a.k = 2 ∨ b.k = 2 then infN (a.n != b.n) else roundAt (a.n != b.n) (a.m * b.m).toNat (a.e + b.e) up
def mulN (x y : Num) (up : Bool) : Num := mulF (fairN x) (fairN y) up
theorem grow_may (n away cut : Bool) (m e : Int) (h1 : 9223372036854775808 ≤ m) (h2 : m < 18446744073709551616) : mayN (growN n m e cut away) = true ∧ Wf (growN n m e cut away) := by
 unfold growN boundN
 refine ⟨?_, ?_⟩
 ·(repeat' split) <;> unfold mayN <;> simp <;> omega
 ·(repeat' split) <;> unfold Wf <;> simp <;> omega
theorem round_may (n : Bool) (s : Nat) (e : Int) (up : Bool) : mayN (roundAt n s e up) = true ∧ Wf (roundAt n s e up) := by
 by_cases h0 : s = 0
 ·subst h0
  exact ⟨mayN_zero, zero_wf⟩
 ·by_cases h : s.log2 < 63
  ·obtain ⟨h1, h2⟩ := log_le h0
   have e63 : (2 : Nat) ^ 63 = 9223372036854775808 := by decide
   have e64 : (2 : Nat) ^ 64 = 18446744073709551616 := by decide
   have a1 : 9223372036854775808 ≤ s * 2 ^ (63 - s.log2) := by
    have := Nat.mul_le_mul_right (2 ^ (63 - s.log2)) h1
    rw [← Nat.pow_add, show s.log2 + (63 - s.log2) = 63 from by omega, e63] at this
    exact this
   have a2 : s * 2 ^ (63 - s.log2) < 18446744073709551616 := by
    have := Nat.mul_lt_mul_of_pos_right h2 (Nat.pow_pos (n := 63 - s.log2) (show 0 < 2 by decide))
    rw [← Nat.pow_add, show s.log2 + 1 + (63 - s.log2) = 64 from by omega, e64] at this
    exact this
   unfold roundAt
   rw [if_neg h0, if_pos h]
   exact grow_may _ _ _ _ _ (by omega) (by omega)
  ·have e63 : (2 : Nat) ^ 63 = 9223372036854775808 := by decide
   have hs : 9223372036854775808 ≤ s := by
    have := Nat.pow_le_pow_right (show 0 < 2 by decide) (show 63 ≤ s.log2 by omega)
    have := (log_le h0).1
    omega
   obtain ⟨m, k, r, hN⟩ := norm_ex s hs
   rw [norm_round hN]
   exact grow_may _ _ _ _ _ (by have := hN.2.2.1; omega) (by have := hN.2.2.2; omega)
theorem mulN_may (x y : Num) (up : Bool) : mayN (mulN x y up) = true ∧ Wf (mulN x y up) := by
 unfold mulN mulF
 split
 ·exact ⟨mayN_zero, zero_wf⟩
 ·split
  ·exact ⟨may_inf _, wf_inf _⟩
  ·exact round_may _ _ _ _
def halfC : Num := ⟨1, false, 9223372036854775808, -64⟩
def halfN (x : Num) (up : Bool) : Num := mulN x halfC up
/-! intervals -/
def midI (x : Iv) : Num :=
 if (fairI x).emp = true ∨ ((fairI x).lo.k = 2 ∧ (fairI x).hi.k = 2) then zero else if (fairI x).lo.k = 2 then (fairI x).hi else if (fairI x).hi.k = 2 then (fairI x).lo
 else mostN [(fairI x).lo, leastN [halfN (addN (fairI x).lo (fairI x).hi false) false, (fairI x).hi]]
def widthI (x : Iv) : Num := subN (fairI x).hi (fairI x).lo true
def splitA (x : Iv) : Iv := if (fairI x).emp = true then fairI x else makeI (fairI x).lo (midI (fairI x))
def splitB (x : Iv) : Iv := if (fairI x).emp = true then fairI x else makeI (midI (fairI x)) (fairI x).hi
def inflateI (x : Iv) (by_ : Num) : Iv := if (fairI x).emp = true ∨ signN by_ < 0 then fairI x else makeI (subN (fairI x).lo by_ false) (addN (fairI x).hi by_ true)
theorem most2 {a b : Num} (wa : Wf a) (wb : Wf b) : mayN (mostN [a, b]) = true ∧ Wf (mostN [a, b]) ∧ K a ≤ key (mostN [a, b]) ∧ K b ≤ key (mostN [a, b]) ∧ ∀ B, -TOP ≤ B → K a ≤ B → K b ≤ B → key (mostN [a, b]) ≤ B := by
 obtain ⟨h1, h2, h3, h4, h5⟩ := most_fold [a, b] (infN true) (may_inf true) (wf_inf true) (by intro x hx; simp at hx; rcases hx with rfl | rfl; exact wa; exact wb)
 refine ⟨h1, h2, h4 a (by simp), h4 b (by simp), fun B h k1 k2 => h5 B (by rw [key_inf]; exact h) ?_⟩
 intro x hx; simp at hx; rcases hx with rfl | rfl; exact k1; exact k2
theorem least2 {a b : Num} (wa : Wf a) (wb : Wf b) : mayN (leastN [a, b]) = true ∧ Wf (leastN [a, b]) ∧ key (leastN [a, b]) ≤ K a ∧ key (leastN [a, b]) ≤ K b ∧ ∀ B, B ≤ TOP → B ≤ K a → B ≤ K b → B ≤ key (leastN [a, b]) := by
 obtain ⟨h1, h2, h3, h4, h5⟩ := least_fold [a, b] (infN false) (may_inf false) (wf_inf false) (by intro x hx; simp at hx; rcases hx with rfl | rfl; exact wa; exact wb)
 refine ⟨h1, h2, h4 a (by simp), h4 b (by simp), fun B h k1 k2 => h5 B (by rw [key_inf]; exact h) ?_⟩
 intro x hx; simp at hx; rcases hx with rfl | rfl; exact k1; exact k2
/-- the middle of one that is not empty -/
theorem mid_spec {x : Iv} (wx : WfIv x) (f : Full x) : mayN (midI x) = true ∧ Wf (midI x) ∧ key x.lo ≤ key (midI x) ∧ key (midI x) ≤ key x.hi ∧ -TOP < key (midI x) ∧ key (midI x) < TOP := by
 obtain ⟨h0, h1, h2, h3, h4, h5⟩ := (full_iff wx).1 f
 have T0 : 0 < TOP := by unfold TOP; decide
 have bl := key_bd h1 wx.1
 have bh := key_bd h2 wx.2
 unfold midI
 rw [fairI_of f, h0]
 by_cases k1 : x.lo.k = 2
 ·have e1 : key x.lo = -TOP := by have := inf_key h1 k1; split at this <;> omega
  by_cases k2 : x.hi.k = 2
  ·rw [if_pos (.inr ⟨k1, k2⟩), key_zero]
   have e2 : key x.hi = TOP := by have := inf_key h2 k2; split at this <;> omega
   exact ⟨mayN_zero, zero_wf, by omega, by omega, by omega, by omega⟩
  ·rw [if_neg (by simp [k2]), if_pos k1]
   have := fin_key h2 wx.2 k2
   exact ⟨h2, wx.2, h3, Int.le_refl _, by omega, by omega⟩
 ·have f1 := fin_key h1 wx.1 k1
  rw [if_neg (by simp [k1]), if_neg k1]
  by_cases k2 : x.hi.k = 2
  ·rw [if_pos k2]
   exact ⟨h1, wx.1, Int.le_refl _, h3, by omega, by omega⟩
  ·rw [if_neg k2]
   have f2 := fin_key h2 wx.2 k2
   have hm := mulN_may (addN x.lo x.hi false) halfC false
   change mayN (halfN _ _) = true ∧ Wf (halfN _ _) at hm
   generalize halfN (addN x.lo x.hi false) false = m at hm ⊢
   obtain ⟨l1, l2, l3, l4, l5⟩ := least2 hm.2 wx.2
   obtain ⟨g1, g2, g3, g4, g5⟩ := most2 wx.1 l2
   rw [K_of l1] at g4 g5
   rw [K_of h1] at g3 g5
   rw [K_of h2] at l4
   have := g5 (key x.hi) (by omega) h3 l4
   exact ⟨g1, g2, g3, this, by omega, by omega⟩
theorem full_of {x : Iv} (mx : mayI x = true) (he : x.emp = false) : Full x := ⟨mx, he⟩
theorem split_spec {x : Iv} (wx : WfIv x) (f : Full x) : splitA x = ⟨false, x.lo, midI x⟩ ∧ splitB x = ⟨false, midI x, x.hi⟩ ∧ Full ⟨false, x.lo, midI x⟩ ∧ Full ⟨false, midI x, x.hi⟩ := by
 obtain ⟨m1, m2, m3, m4, m5, m6⟩ := mid_spec wx f
 obtain ⟨h0, h1, h2, h3, h4, h5⟩ := (full_iff wx).1 f
 unfold splitA splitB
 rw [fairI_of f, h0]
 simp only [Bool.false_eq_true, if_false]
 obtain ⟨a1, a2⟩ := make_full h1 m1 wx.1 m2 ⟨m3, h4, m5⟩
 obtain ⟨b1, b2⟩ := make_full m1 h2 m2 wx.2 ⟨m4, m6, h5⟩
 exact ⟨a1, b1, a2, b2⟩
theorem key_lt_top {x : Num} (h : mayN x = true) (w : Wf x) (h1 : -TOP < key x) (h2 : key x < TOP) : Fin x := by
 unfold Fin; rw [K_of h]; exact ⟨h1, h2⟩
/-- IvHalves -/
theorem law_halves (x : Iv) (mx : mayI x = true) (he : x.emp = false) (wx : WfIv x) :
  hasI x (midI x) = true ∧ hasI (splitA x) (midI x) = true ∧ hasI (splitB x) (midI x) = true ∧ hullI [splitA x, splitB x] = x ∧ meetI [splitA x, splitB x] = pointI (midI x) ∧ ¬ 0 < cmpN (widthI (splitA x)) (widthI x) := by
 have f : Full x := ⟨mx, he⟩
 obtain ⟨m1, m2, m3, m4, m5, m6⟩ := mid_spec wx f
 obtain ⟨h0, h1, h2, h3, h4, h5⟩ := (full_iff wx).1 f
 obtain ⟨sa, sb, fa, fb⟩ := split_spec wx f
 have fm := key_lt_top m1 m2 m5 m6
 rw [sa, sb]
 generalize midI x = m at *
 have wA : WfIv ⟨false, x.lo, m⟩ := ⟨wx.1, m2⟩
 have wB : WfIv ⟨false, m, x.hi⟩ := ⟨m2, wx.2⟩
 have w2 := wf2 wA wB
 refine ⟨?_, ?_, ?_, ?_, ?_, ?_⟩
 ·rw [has_iff wx m2, K_of m1]; exact ⟨f, fm, m3, m4⟩
 ·rw [has_iff wA m2, K_of m1]; exact ⟨fa, fm, m3, Int.le_refl _⟩
 ·rw [has_iff wB m2, K_of m1]; exact ⟨fb, fm, Int.le_refl _, m4⟩
 ·refine eq_hull _ w2 mx wx fun c oc => ?_
  rw [all2]
  constructor
  ·intro h
   refine ⟨fun k hk => h k ?_, fun k hk => h k ?_⟩
   ·rw [mem_code] at hk ⊢
    simp only at hk
    exact ⟨f, hk.2.1, by omega⟩
   ·rw [mem_code] at hk ⊢
    simp only at hk
    exact ⟨f, by omega, hk.2.2⟩
  ·rintro ⟨g1, g2⟩ k hk
   rw [mem_code] at hk
   by_cases hkm : k ≤ key m
   ·exact g1 k (mem_code.2 ⟨fa, hk.2.1, hkm⟩)
   ·exact g2 k (mem_code.2 ⟨fb, by simp only; omega, hk.2.2⟩)
 ·have hp := make_full m1 m1 m2 m2 ⟨Int.le_refl _, m6, m5⟩
  unfold pointI
  rw [hp.1]
  refine eq_meet _ w2 hp.2.1 ⟨m2, m2⟩ fun k => ?_
  rw [all2, mem_code, mem_code, mem_code]
  simp only
  constructor
  ·rintro ⟨_, a, b⟩
   exact ⟨⟨by omega, by omega⟩, ⟨fa, by omega, by omega⟩, ⟨fb, by omega, by omega⟩⟩
  ·rintro ⟨_, ⟨_, a, b⟩, ⟨_, c, d⟩⟩
   exact ⟨hp.2, by omega, by omega⟩
 ·unfold widthI
  rw [fairI_of f, fairI_of fa]
  simp only
  have w1 := subN_may m2 wx.1 true
  have w2 := subN_may wx.2 wx.1 true
  rw [cmp_gt w1.2 w2.2, K_of w1.1, K_of w2.1]
  have := subN_mono true m2 wx.1 wx.2 wx.1 (by rw [K_of m1, K_of h2]; exact m4) (Int.le_refl _)
  omega
theorem infl_spec {x : Iv} {a : Num} (wx : WfIv x) (wa : Wf a) (f : Full x) (ha : 0 ≤ K a) : ∃ l h, inflateI x a = ⟨false, l, h⟩ ∧ Full ⟨false, l, h⟩ ∧ l = subN x.lo a false ∧ h = addN x.hi a true ∧ Wf l ∧ Wf h ∧ key l ≤ key x.lo ∧ key x.hi ≤ key h := by
 obtain ⟨h0, h1, h2, h3, h4, h5⟩ := (full_iff wx).1 f
 have hs : ¬ signN a < 0 := by
  rw [sign_K wa]; (repeat' split) <;> omega
 unfold inflateI
 rw [fairI_of f, h0, if_neg (by simp [hs])]
 have ml := subN_may wx.1 wa false
 have mh := addN_may wx.2 wa true
 have kz : K zero = 0 := by rw [K_of mayN_zero, key_zero]
 have kl : key (subN x.lo a false) ≤ key x.lo := by
  have := subN_mono false wx.1 wa wx.1 zero_wf (Int.le_refl _) (by omega)
  rw [subN_zero _ wx.1, fairN_of h1] at this
  exact this
 have kh : key x.hi ≤ key (addN x.hi a true) := by
  have := addN_mono true wx.2 zero_wf wx.2 wa (Int.le_refl _) (by omega)
  rw [addN_zero _ wx.2, fairN_of h2] at this
  exact this
 obtain ⟨e1, e2⟩ := make_full ml.1 mh.1 ml.2 mh.2 ⟨by omega, by omega, by omega⟩
 exact ⟨_, _, e1, e2, rfl, rfl, ml.2, mh.2, kl, kh⟩
theorem infl_none {x : Iv} (a : Num) (f : ¬ Full x) : inflateI x a = noneI := by
 have e : fairI x = noneI := by
  rcases fairI_cases x with ⟨h, _⟩ | ⟨_, e⟩
  ·exact absurd h f
  ·exact e
 unfold inflateI
 rw [e]
 rfl
theorem infl_wf {x : Iv} {a : Num} (wx : WfIv x) (wa : Wf a) : WfIv (inflateI x a) ∧ mayI (inflateI x a) = true := by
 unfold inflateI
 split
 ·exact ⟨fairI_wf wx, may_fairI x⟩
 ·exact ⟨make_wf (subN_may (fairI_wf wx).1 wa false).2 (addN_may (fairI_wf wx).2 wa true).2, may_make _ _⟩
/-- IvWider -/
theorem law_wider (x : Iv) (a b : Num) (mx : mayI x = true) (wx : WfIv x) (wa : Wf a) (wb : Wf b) (ha : ¬ signN a < 0) (hab : ¬ 0 < cmpN a b) :
  withinI x (inflateI x a) = true ∧ withinI (inflateI x a) (inflateI x b) = true ∧ inflateI x zero = x ∧ mayI (inflateI x b) = true := by
 have ka : 0 ≤ K a := by
  rw [sign_K wa] at ha; (repeat' split at ha) <;> omega
 rw [cmp_gt wa wb] at hab
 have kz : K zero = 0 := by rw [K_of mayN_zero, key_zero]
 by_cases f : Full x
 ·obtain ⟨l, h, e1, f1, el, eh, wl, wh, k1, k2⟩ := infl_spec wx wa f ka
  obtain ⟨l', h', e2, f2, el', eh', wl', wh', k3, k4⟩ := infl_spec wx wb f (by omega)
  obtain ⟨l0, h0, e3, f3, el0, eh0, wl0, wh0, k5, k6⟩ := infl_spec wx zero_wf f (by omega)
  obtain ⟨q0, q1, q2, q3, q4, q5⟩ := (full_iff wx).1 f
  rw [e1, e2, e3]
  refine ⟨(within_iff wx ⟨wl, wh⟩).2 ?_, (within_iff ⟨wl, wh⟩ ⟨wl', wh'⟩).2 ?_, ?_, f2.1⟩
  ·intro k hk
   rw [mem_code] at hk ⊢
   simp only
   exact ⟨f1, by omega, by omega⟩
  ·have g1 : key l' ≤ key l := by
    rw [el, el']; exact subN_mono false wx.1 wb wx.1 wa (Int.le_refl _) (by omega)
   have g2 : key h ≤ key h' := by
    rw [eh, eh']; exact addN_mono true wx.2 wa wx.2 wb (Int.le_refl _) (by omega)
   intro k hk
   rw [mem_code] at hk ⊢
   simp only at hk ⊢
   exact ⟨f2, by omega, by omega⟩
  ·rw [el0, eh0, subN_zero _ wx.1, addN_zero _ wx.2, fairN_of q1, fairN_of q2]
   exact Iv.ext q0.symm rfl rfl
 ·rw [infl_none a f, infl_none b f, infl_none zero f, may_none mx f]
  refine ⟨?_, ?_, rfl, may_noneI⟩ <;> decide +kernel
end Go.Proofs.Pl
