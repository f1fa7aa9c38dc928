/- Plain laws of numbers and intervals: a number's place in the order as one integer; what meets and hulls have. Nothing of Go. -/
import Derived.Test.YtagojbgmgkkdpaaGreatNumDef
namespace Go.Proofs.Pl
set_option linter.unusedSimpArgs false
set_option linter.unusedVariables false

/-- beyond every finite number's place -/
def TOP : Int := 1267650600228229401496703205376
def mag (x : Num) : Int := if x.k = 0 then 0 else if x.k = 1 then (x.e + 1048576) * 18446744073709551616 + x.m + 1 else TOP
def key (x : Num) : Int := if x.n = true then -(mag x) else mag x
/-- numbers that fit their kinds -/
def Wf (x : Num) : Prop := 0 ≤ x.m ∧ x.m < 18446744073709551616
def K (x : Num) : Int := key (fairN x)

theorem zero_wf : Wf zero := by unfold Wf zero; simp
theorem fairN_wf {x : Num} (h : Wf x) : Wf (fairN x) := by unfold fairN; split; exact h; exact zero_wf
theorem mayN_zero : mayN zero = true := by decide +kernel
theorem mayN_fair (x : Num) : mayN (fairN x) = true := by unfold fairN; split; assumption; exact mayN_zero
theorem fairN_of {x : Num} (h : mayN x = true) : fairN x = x := by unfold fairN; rw [if_pos h]
theorem fairN_fair (x : Num) : fairN (fairN x) = fairN x := fairN_of (mayN_fair x)

/-- what a number that may be is -/
theorem may_cases {x : Num} (h : mayN x = true) : (x.k = 0 ∧ x.n = false ∧ x.m = 0 ∧ x.e = 0) ∨ (x.k = 1 ∧ 9223372036854775808 ≤ x.m ∧ -1048576 ≤ x.e ∧ x.e ≤ 1048576) ∨ (x.k = 2 ∧ x.m = 0 ∧ x.e = 0) := by
 unfold mayN at h
 split at h
 ·left; simp_all
 ·split at h
  ·right; left; simp_all
  ·right; right; simpa using h
theorem key_bd {x : Num} (h : mayN x = true) (hw : Wf x) : -TOP ≤ key x ∧ key x ≤ TOP := by
 unfold key mag TOP
 unfold Wf at hw
 rcases may_cases h with ⟨h1, _⟩ | ⟨h1, h2⟩ | ⟨h1, _⟩
 ·simp [h1]
 ·simp only [h1]
  constructor <;> (repeat' split) <;> omega
 ·simp only [h1]
  constructor <;> (repeat' split) <;> omega
theorem key_inj {x y : Num} (hx : mayN x = true) (hy : mayN y = true) (wx : Wf x) (wy : Wf y) (h : key x = key y) : x = y := by
 obtain ⟨k, n, m, e⟩ := x
 obtain ⟨k', n', m', e'⟩ := y
 unfold key mag TOP at h
 unfold Wf at wx wy
 rcases may_cases hx with ⟨h1, h2, h3, h4⟩ | ⟨h1, h2, h3⟩ | ⟨h1, h2, h3⟩ <;> rcases may_cases hy with ⟨g1, g2, g3, g4⟩ | ⟨g1, g2, g3⟩ | ⟨g1, g2, g3⟩ <;> simp only at * <;> subst h1 g1 <;>
  cases n <;> cases n' <;> simp at h h2 g2 ⊢ <;> first | omega | (constructor <;> omega)
theorem sign_key {x : Num} (hx : mayN x = true) (wx : Wf x) : signN x = if key x < 0 then -1 else if 0 < key x then 1 else 0 := by
 unfold signN signF
 rw [fairN_of hx]
 obtain ⟨k, n, m, e⟩ := x
 unfold key mag TOP
 unfold Wf at wx
 rcases may_cases hx with ⟨h1, h2, h3, h4⟩ | ⟨h1, h2, h3⟩ | ⟨h1, h2, h3⟩ <;> simp only at * <;> subst h1 <;> cases n <;> simp at * <;> (repeat' split) <;> omega
theorem far_key {x y : Num} (hx : mayN x = true) (hy : mayN y = true) (wx : Wf x) (wy : Wf y) : farN x y = decide (mag y < mag x) := by
 obtain ⟨k, n, m, e⟩ := x
 obtain ⟨k', n', m', e'⟩ := y
 unfold farN mag TOP
 unfold Wf at wx wy
 rcases may_cases hx with ⟨h1, h2, h3, h4⟩ | ⟨h1, h2, h3⟩ | ⟨h1, h2, h3⟩ <;> rcases may_cases hy with ⟨g1, g2, g3, g4⟩ | ⟨g1, g2, g3⟩ | ⟨g1, g2, g3⟩ <;> simp only at * <;> subst h1 g1 <;>
  simp only [reduceIte, Int.reduceEq, Int.reduceLT, decide_true, decide_false] <;> (repeat' split) <;> rw [Bool.eq_iff_iff] <;> simp only [decide_eq_true_eq, Bool.false_eq_true, false_iff, true_iff, iff_false, iff_true] <;> omega
theorem cmpF_key {x y : Num} (hx : mayN x = true) (hy : mayN y = true) (wx : Wf x) (wy : Wf y) : cmpF x y = if key x < key y then -1 else if key y < key x then 1 else 0 := by
 unfold cmpF
 rw [sign_key hx wx, sign_key hy wy, far_key hx hy wx wy, far_key hy hx wy wx]
 have h1 : key x = mag x ∨ key x = -(mag x) := by unfold key; split <;> simp
 have h2 : key y = mag y ∨ key y = -(mag y) := by unfold key; split <;> simp
 have h3 : ∀ z : Num, mayN z = true → Wf z → 0 ≤ mag z := fun z hz wz => by
  unfold mag TOP
  unfold Wf at wz
  rcases may_cases hz with ⟨h1, _⟩ | ⟨h1, h2⟩ | ⟨h1, _⟩ <;> simp only [h1] <;> (repeat' split) <;> omega
 have h4 := h3 x hx wx
 have h5 := h3 y hy wy
 simp only [decide_eq_true_eq]
 rcases h1 with h1 | h1 <;> rcases h2 with h2 | h2 <;> rw [h1, h2] <;> (repeat' split) <;> omega
theorem cmpN_key {x y : Num} (wx : Wf x) (wy : Wf y) : cmpN x y = if K x < K y then -1 else if K y < K x then 1 else 0 :=
 cmpF_key (mayN_fair x) (mayN_fair y) (fairN_wf wx) (fairN_wf wy)
theorem cmp_le {x y : Num} (wx : Wf x) (wy : Wf y) : cmpN x y ≤ 0 ↔ K x ≤ K y := by
 rw [cmpN_key wx wy]; (repeat' split) <;> omega
theorem cmp_lt {x y : Num} (wx : Wf x) (wy : Wf y) : cmpN x y < 0 ↔ K x < K y := by
 rw [cmpN_key wx wy]; (repeat' split) <;> omega
theorem cmp_gt {x y : Num} (wx : Wf x) (wy : Wf y) : 0 < cmpN x y ↔ K y < K x := by
 rw [cmpN_key wx wy]; (repeat' split) <;> omega
theorem negNeg (x : Num) : negN (negN x) = fairN x := by
 unfold negN
 have h := mayN_fair x
 have hm : mayN (negF (fairN x)) = true := by
  have hc := may_cases h
  generalize fairN x = y at hc
  obtain ⟨k, n, m, e⟩ := y
  unfold negF mayN
  simp only at *
  rcases hc with ⟨rfl, rfl, rfl, rfl⟩ | ⟨rfl, h2, h3⟩ | ⟨rfl, rfl, rfl⟩ <;> simp <;> omega
 rw [fairN_of hm]
 have hc := may_cases h
 generalize fairN x = y at hc
 obtain ⟨k, n, m, e⟩ := y
 unfold negF
 simp only at *
 rcases hc with ⟨rfl, rfl, rfl, rfl⟩ | ⟨rfl, h2, h3⟩ | ⟨rfl, rfl, rfl⟩ <;> simp
theorem key_inf (b : Bool) : key (infN b) = if b = true then -TOP else TOP := by cases b <;> decide +kernel
theorem may_inf (b : Bool) : mayN (infN b) = true := by cases b <;> decide +kernel
theorem wf_inf (b : Bool) : Wf (infN b) := by unfold Wf infN; simp
theorem eq_inf {x : Num} (hx : mayN x = true) (wx : Wf x) (b : Bool) : x = infN b ↔ key x = key (infN b) :=
 ⟨fun h => by rw [h], fun h => key_inj hx (may_inf b) wx (wf_inf b) h⟩

/-! intervals -/
def WfIv (x : Iv) : Prop := Wf x.lo ∧ Wf x.hi
/-- one that may be, and is not empty -/
def Full (x : Iv) : Prop := mayI x = true ∧ x.emp = false
theorem noneI_wf : WfIv noneI := ⟨zero_wf, zero_wf⟩
theorem fairI_wf {x : Iv} (h : WfIv x) : WfIv (fairI x) := by unfold fairI; split; exact h; exact noneI_wf
theorem fairI_cases (x : Iv) : (Full x ∧ fairI x = x) ∨ (¬ Full x ∧ fairI x = noneI) := by
 unfold fairI Full
 by_cases h : mayI x = true
 ·rw [if_pos h]
  cases he : x.emp with
  | false => exact .inl ⟨⟨h, rfl⟩, rfl⟩
  | true =>
   refine .inr ⟨by simp, ?_⟩
   unfold mayI at h
   rw [if_pos he] at h
   exact of_decide_eq_true h
 ·rw [if_neg h]
  exact .inr ⟨fun hh => h hh.1, rfl⟩
theorem full_iff {x : Iv} (w : WfIv x) : Full x ↔ x.emp = false ∧ mayN x.lo = true ∧ mayN x.hi = true ∧ key x.lo ≤ key x.hi ∧ key x.lo < TOP ∧ -TOP < key x.hi := by
 unfold Full mayI
 constructor
 ·rintro ⟨h, he⟩
  rw [he] at h
  simp only [Bool.false_eq_true, if_false, Bool.and_eq_true, decide_eq_true_eq, Bool.not_eq_true', decide_eq_false_iff_not] at h
  obtain ⟨⟨⟨⟨h1, h2⟩, h3⟩, h4⟩, h5⟩ := h
  have h6 := (cmp_le w.1 w.2).1 h3
  unfold K at h6
  rw [fairN_of h1, fairN_of h2] at h6
  have b1 := key_bd h1 w.1
  have b2 := key_bd h2 w.2
  rw [eq_inf h1 w.1, key_inf] at h4
  rw [eq_inf h2 w.2, key_inf] at h5
  simp only [Bool.false_eq_true, if_false, if_true] at h4 h5
  exact ⟨he, h1, h2, h6, by omega, by omega⟩
 ·rintro ⟨he, h1, h2, h3, h4, h5⟩
  refine ⟨?_, he⟩
  rw [he]
  simp only [Bool.false_eq_true, if_false, Bool.and_eq_true, decide_eq_true_eq, Bool.not_eq_true', decide_eq_false_iff_not]
  refine ⟨⟨⟨⟨h1, h2⟩, ?_⟩, ?_⟩, ?_⟩
  ·rw [cmp_le w.1 w.2]; unfold K; rw [fairN_of h1, fairN_of h2]; exact h3
  ·rw [eq_inf h1 w.1, key_inf]; simp only [Bool.false_eq_true, if_false]; omega
  ·rw [eq_inf h2 w.2, key_inf]; simp only [if_true]; omega
theorem fairI_emp (x : Iv) : (fairI x).emp = false ↔ Full x := by
 rcases fairI_cases x with ⟨h, e⟩ | ⟨h, e⟩
 ·rw [e]; exact ⟨fun _ => h, fun _ => h.2⟩
 ·rw [e]; exact ⟨fun h' => by simp [noneI] at h', fun h' => absurd h' h⟩
theorem fairI_of {x : Iv} (h : Full x) : fairI x = x := by
 rcases fairI_cases x with ⟨_, e⟩ | ⟨h', _⟩
 ·exact e
 ·exact absurd h h'
theorem makeI_eq (a b : Num) : makeI a b = fairI ⟨false, fairN a, fairN b⟩ := by unfold makeI; rw [negNeg, negNeg]
/-- finite -/
def Fin (n : Num) : Prop := -TOP < K n ∧ K n < TOP
theorem point_full {n : Num} (w : Wf n) : Full (⟨false, fairN n, fairN n⟩ : Iv) ↔ Fin n := by
 rw [full_iff ⟨fairN_wf w, fairN_wf w⟩]
 unfold Fin K
 have := mayN_fair n
 simp only [this, true_and]
 constructor
 ·rintro ⟨_, h1, h2⟩; exact ⟨h2, h1⟩
 ·rintro ⟨h1, h2⟩; exact ⟨Int.le_refl _, h2, h1⟩
theorem has_iff {x : Iv} {n : Num} (wx : WfIv x) (wn : Wf n) : hasI x n = true ↔ Full x ∧ Fin n ∧ key x.lo ≤ K n ∧ K n ≤ key x.hi := by
 unfold hasI pointI
 rw [makeI_eq]
 by_cases hp : Fin n
 ·have hf := (point_full wn).2 hp
  rw [fairI_of hf]
  unfold withinI
  rw [fairI_of hf]
  rcases fairI_cases x with ⟨h, e⟩ | ⟨h, e⟩
  ·rw [e]
   have hx := (full_iff wx).1 h
   unfold withinF
   simp only [Bool.not_false, Bool.true_and, Bool.false_or, hx.1, Bool.and_eq_true, decide_eq_true_eq, cmp_le wx.1 (fairN_wf wn), cmp_le (fairN_wf wn) wx.2]
   unfold K
   rw [fairN_of hx.2.1, fairN_of hx.2.2.1, fairN_fair]
   exact ⟨fun g => ⟨h, hp, g.1, g.2⟩, fun g => g.2.2⟩
  ·rw [e]
   unfold withinF noneI
   simp [h]
 ·have hf : ¬ Full (⟨false, fairN n, fairN n⟩ : Iv) := fun h => hp ((point_full wn).1 h)
  have he : fairI ⟨false, fairN n, fairN n⟩ = noneI := by
   rcases fairI_cases ⟨false, fairN n, fairN n⟩ with ⟨h, _⟩ | ⟨_, e⟩
   ·exact absurd h hf
   ·exact e
  rw [he]
  simp [noneI, hp]
end Go.Proofs.Pl
