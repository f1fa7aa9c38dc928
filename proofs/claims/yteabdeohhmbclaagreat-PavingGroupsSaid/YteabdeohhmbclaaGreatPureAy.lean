/- Plain words: numbers of 64 bits times powers of two, intervals, and what the program makes of them; nothing of Go. -/
namespace Go.Proofs.Pl

@[ext] structure Num where
 k : Int
 n : Bool
 m : Int
 e : Int
deriving DecidableEq
@[ext] structure Iv where
 emp : Bool
 lo : Num
 hi : Num
deriving DecidableEq

def zero : Num := ⟨0, false, 0, 0⟩
def infN (neg : Bool) : Num := ⟨2, neg, 0, 0⟩
def mayN (x : Num) : Bool :=
 if x.k = 0 then (!x.n && x.m == 0 && x.e == 0) else if x.k = 1 then decide (9223372036854775808 ≤ x.m ∧ -1048576 ≤ x.e ∧ x.e ≤ 1048576) else decide (x.k = 2 ∧ x.m = 0 ∧ x.e = 0)
def fairN (x : Num) : Num := if mayN x = true then x else zero
def signF (x : Num) : Int := if x.k = 0 then 0 else if x.n = true then -1 else 1
def signN (x : Num) : Int := signF (fairN x)
def farN (a b : Num) : Bool := if a.k = b.k then (if a.e = b.e then decide (b.m < a.m) else decide (b.e < a.e)) else decide (b.k < a.k)
def cmpF (a b : Num) : Int :=
 if signN a < signN b then -1 else if signN b < signN a then 1 else if farN a b = true then signN a else if farN b a = true then -(signN a) else 0
def cmpN (a b : Num) : Int := cmpF (fairN a) (fairN b)
def negF (x : Num) : Num := ⟨x.k, (!(x.k == 0) && !x.n), x.m, x.e⟩
def negN (x : Num) : Num := negF (fairN x)

def noneI : Iv := ⟨true, zero, zero⟩
def allI : Iv := ⟨false, infN true, infN false⟩
def mayI (x : Iv) : Bool :=
 if x.emp = true then decide (x = noneI) else mayN x.lo && mayN x.hi && decide (cmpN x.lo x.hi ≤ 0) && !(decide (x.lo = infN false)) && !(decide (x.hi = infN true))
def fairI (x : Iv) : Iv := if mayI x = true then x else noneI
def makeI (a b : Num) : Iv := fairI ⟨false, negN (negN a), negN (negN b)⟩
def pointI (a : Num) : Iv := makeI a a
def withinF (a b : Iv) : Bool := a.emp || (!b.emp && decide (cmpN b.lo a.lo ≤ 0) && decide (cmpN a.hi b.hi ≤ 0))
def withinI (a b : Iv) : Bool := withinF (fairI a) (fairI b)
def hasI (x : Iv) (n : Num) : Bool := !(pointI n).emp && withinI (pointI n) x

def leastStep (out n : Num) : Num := if cmpN n out < 0 then fairN n else out
def mostStep (out n : Num) : Num := if 0 < cmpN n out then fairN n else out
def leastN (l : List Num) : Num := l.foldl leastStep (infN false)
def mostN (l : List Num) : Num := l.foldl mostStep (infN true)
def fulls (l : List Iv) : List Iv := (l.map fairI).filter fun x => !x.emp
def endsAll (l : List Iv) : Bool := (l.map fairI).all fun x => !x.emp
def meetI (l : List Iv) : Iv := if endsAll l = true then makeI (mostN ((fulls l).map (·.lo))) (leastN ((fulls l).map (·.hi))) else noneI
def hullI (l : List Iv) : Iv := if fulls l = [] then noneI else makeI (leastN ((fulls l).map (·.lo))) (mostN ((fulls l).map (·.hi)))

def bq (n k : Nat) : Array Bool := ((List.range n).map fun i => k.testBit i).toArray
theorem pA {α : Type} (l : List α) (i : Nat) (a : α) : l.toArray.setIfInBounds i a = (l.set i a).toArray := List.setIfInBounds_toArray l i a
theorem pB {α : Type} (x : α) (l : List α) (a : α) : (x :: l).set 0 a = a :: l := rfl
theorem pC {α : Type} (x : α) (l : List α) (i : Nat) (a : α) : (x :: l).set (i + 1) a = x :: l.set i a := rfl
end Go.Proofs.Pl
namespace Go.Proofs.Pl
set_option linter.unusedSimpArgs false
set_option linter.unusedVariables false

def TOP : Int := 1267650600228229401496703205376
def mag (x : Num) : Int := if x.k = 0 then 0 else if x.k = 1 then (x.e + 1048576) * 18446744073709551616 + x.m + 1 else TOP
def key (x : Num) : Int := if x.n = true then -(mag x) else mag x
def Wf (x : Num) : Prop := 0 ≤ x.m ∧ x.m < 18446744073709551616
def K (x : Num) : Int := key (fairN x)

theorem zero_wf : Wf zero := by unfold Wf zero; simp
theorem fairN_wf {x : Num} (h : Wf x) : Wf (fairN x) := by unfold fairN; split; exact h; exact zero_wf
theorem mayN_zero : mayN zero = true := by decide +kernel
theorem mayN_fair (x : Num) : mayN (fairN x) = true := by unfold fairN; split; assumption; exact mayN_zero
theorem fairN_of {x : Num} (h : mayN x = true) : fairN x = x := by unfold fairN; rw [if_pos h]
theorem may_cases {x : Num} (h : mayN x = true) : (x.k = 0 ∧ x.n = false ∧ x.m = 0 ∧ x.e = 0) ∨ (x.k = 1 ∧ 9223372036854775808 ≤ x.m ∧ -1048576 ≤ x.e ∧ x.e ≤ 1048576) ∨ (x.k = 2 ∧ x.m = 0 ∧ x.e = 0) := by
 unfold mayN at h
 split at h
 ·left; simp_all
 ·split at h
  ·right; left; simp_all
  ·right; right; simpa using h
theorem key_bd {x : Num} (h : mayN x = true) (hw : Wf x) : -TOP ≤ key x ∧ key x ≤ TOP := by
 unfold key mag TOP
 unfold Wf at hw
 rcases may_cases h with ⟨h1, _⟩ | ⟨h1, h2⟩ | ⟨h1, _⟩
 ·simp [h1]
 ·simp only [h1]
  constructor <;> (repeat' split) <;> omega
 ·simp only [h1]
  constructor <;> (repeat' split) <;> omega
theorem key_inj {x y : Num} (hx : mayN x = true) (hy : mayN y = true) (wx : Wf x) (wy : Wf y) (h : key x = key y) : x = y := by
 obtain ⟨k, n, m, e⟩ := x
 obtain ⟨k', n', m', e'⟩ := y
 unfold key mag TOP at h
 unfold Wf at wx wy
 rcases may_cases hx with ⟨h1, h2, h3, h4⟩ | ⟨h1, h2, h3⟩ | ⟨h1, h2, h3⟩ <;> rcases may_cases hy with ⟨g1, g2, g3, g4⟩ | ⟨g1, g2, g3⟩ | ⟨g1, g2, g3⟩ <;> simp only at * <;> subst h1 g1 <;>
  cases n <;> cases n' <;> simp at h h2 g2 ⊢ <;> first | omega | (constructor <;> omega)
theorem sign_key {x : Num} (hx : mayN x = true) (wx : Wf x) : signN x = if key x < 0 then -1 else if 0 < key x then 1 else 0 := by
 unfold signN signF
 rw [fairN_of hx]
 obtain ⟨k, n, m, e⟩ := x
 unfold key mag TOP
 unfold Wf at wx
 rcases may_cases hx with ⟨h1, h2, h3, h4⟩ | ⟨h1, h2, h3⟩ | ⟨h1, h2, h3⟩ <;> simp only at * <;> subst h1 <;> cases n <;> simp at * <;> (repeat' split) <;> omega
theorem far_key {x y : Num} (hx : mayN x = true) (hy : mayN y = true) (wx : Wf x) (wy : Wf y) : farN x y = decide (mag y < mag x) := by
 obtain ⟨k, n, m, e⟩ := x
 obtain ⟨k', n', m', e'⟩ := y
 unfold farN mag TOP
 unfold Wf at wx wy
 rcases may_cases hx with ⟨h1, h2, h3, h4⟩ | ⟨h1, h2, h3⟩ | ⟨h1, h2, h3⟩ <;> rcases may_cases hy with ⟨g1, g2, g3, g4⟩ | ⟨g1, g2, g3⟩ | ⟨g1, g2, g3⟩ <;> simp only at * <;> subst h1 g1 <;>
  simp only [reduceIte, Int.reduceEq, Int.reduceLT, decide_true, decide_false] <;> (repeat' split) <;> rw [Bool.eq_iff_iff] <;> simp only [decide_eq_true_eq, Bool.false_eq_true, false_iff, true_iff, iff_false, iff_true] <;> omega
theorem cmpF_key {x y : Num} (hx : mayN x = true) (hy : mayN y = true) (wx : Wf x) (wy : Wf y) : cmpF x y = if key x < key y then -1 else if key y < key x then 1 else 0 := by
 unfold cmpF
 rw [sign_key hx wx, sign_key hy wy, far_key hx hy wx wy, far_key hy hx wy wx]
 have h1 : key x = mag x ∨ key x = -(mag x) := by unfold key; split <;> simp
 have h2 : key y = mag y ∨ key y = -(mag y) := by unfold key; split <;> simp
 have h3 : ∀ z : Num, mayN z = true → Wf z → 0 ≤ mag z := fun z hz wz => by
  unfold mag TOP
  unfold Wf at wz
  rcases may_cases hz with ⟨h1, _⟩ | ⟨h1, h2⟩ | ⟨h1, _⟩ <;> simp only [h1] <;> (repeat' split) <;> omega
 have h4 := h3 x hx wx
 have h5 := h3 y hy wy
 simp only [decide_eq_true_eq]
 rcases h1 with h1 | h1 <;> rcases h2 with h2 | h2 <;> rw [h1, h2] <;> (repeat' split) <;> omega
theorem cmpN_key {x y : Num} (wx : Wf x) (wy : Wf y) : cmpN x y = if K x < K y then -1 else if K y < K x then 1 else 0 :=
 cmpF_key (mayN_fair x) (mayN_fair y) (fairN_wf wx) (fairN_wf wy)
theorem cmp_le {x y : Num} (wx : Wf x) (wy : Wf y) : cmpN x y ≤ 0 ↔ K x ≤ K y := by
 rw [cmpN_key wx wy]; (repeat' split) <;> omega
theorem cmp_lt {x y : Num} (wx : Wf x) (wy : Wf y) : cmpN x y < 0 ↔ K x < K y := by
 rw [cmpN_key wx wy]; (repeat' split) <;> omega
theorem cmp_gt {x y : Num} (wx : Wf x) (wy : Wf y) : 0 < cmpN x y ↔ K y < K x := by
 rw [cmpN_key wx wy]; (repeat' split) <;> omega
theorem negNeg (x : Num) : negN (negN x) = fairN x := by
 unfold negN
 have h := mayN_fair x
 have hm : mayN (negF (fairN x)) = true := by
  have hc := may_cases h
  generalize fairN x = y at hc
  obtain ⟨k, n, m, e⟩ := y
  unfold negF mayN
  simp only at *
  rcases hc with ⟨rfl, rfl, rfl, rfl⟩ | ⟨rfl, h2, h3⟩ | ⟨rfl, rfl, rfl⟩ <;> simp <;> omega
 rw [fairN_of hm]
 have hc := may_cases h
 generalize fairN x = y at hc
 obtain ⟨k, n, m, e⟩ := y
 unfold negF
 simp only at *
 rcases hc with ⟨rfl, rfl, rfl, rfl⟩ | ⟨rfl, h2, h3⟩ | ⟨rfl, rfl, rfl⟩ <;> simp
theorem key_inf (b : Bool) : key (infN b) = if b = true then -TOP else TOP := by cases b <;> decide +kernel
theorem may_inf (b : Bool) : mayN (infN b) = true := by cases b <;> decide +kernel
theorem wf_inf (b : Bool) : Wf (infN b) := by unfold Wf infN; simp
theorem eq_inf {x : Num} (hx : mayN x = true) (wx : Wf x) (b : Bool) : x = infN b ↔ key x = key (infN b) :=
 ⟨fun h => by rw [h], fun h => key_inj hx (may_inf b) wx (wf_inf b) h⟩

/-! intervals -/
def WfIv (x : Iv) : Prop := Wf x.lo ∧ Wf x.hi
def Full (x : Iv) : Prop := mayI x = true ∧ x.emp = false
theorem noneI_wf : WfIv noneI := ⟨zero_wf, zero_wf⟩
theorem fairI_wf {x : Iv} (h : WfIv x) : WfIv (fairI x) := by unfold fairI; split; exact h; exact noneI_wf
theorem fairI_cases (x : Iv) : (Full x ∧ fairI x = x) ∨ (¬ Full x ∧ fairI x = noneI) := by
 unfold fairI Full
 by_cases h : mayI x = true
 ·rw [if_pos h]
  cases he : x.emp with
  | false => exact .inl ⟨⟨h, rfl⟩, rfl⟩
  | true =>
   refine .inr ⟨by simp, ?_⟩
   unfold mayI at h
   rw [if_pos he] at h
   exact of_decide_eq_true h
 ·rw [if_neg h]
  exact .inr ⟨fun hh => h hh.1, rfl⟩
theorem full_iff {x : Iv} (w : WfIv x) : Full x ↔ x.emp = false ∧ mayN x.lo = true ∧ mayN x.hi = true ∧ key x.lo ≤ key x.hi ∧ key x.lo < TOP ∧ -TOP < key x.hi := by
 unfold Full mayI
 constructor
 ·rintro ⟨h, he⟩
  rw [he] at h
  simp only [Bool.false_eq_true, if_false, Bool.and_eq_true, decide_eq_true_eq, Bool.not_eq_true', decide_eq_false_iff_not] at h
  obtain ⟨⟨⟨⟨h1, h2⟩, h3⟩, h4⟩, h5⟩ := h
  have h6 := (cmp_le w.1 w.2).1 h3
  unfold K at h6
  rw [fairN_of h1, fairN_of h2] at h6
  have b1 := key_bd h1 w.1
  have b2 := key_bd h2 w.2
  rw [eq_inf h1 w.1, key_inf] at h4
  rw [eq_inf h2 w.2, key_inf] at h5
  simp only [Bool.false_eq_true, if_false, if_true] at h4 h5
  exact ⟨he, h1, h2, h6, by omega, by omega⟩
 ·rintro ⟨he, h1, h2, h3, h4, h5⟩
  refine ⟨?_, he⟩
  rw [he]
  simp only [Bool.false_eq_true, if_false, Bool.and_eq_true, decide_eq_true_eq, Bool.not_eq_true', decide_eq_false_iff_not]
  refine ⟨⟨⟨⟨h1, h2⟩, ?_⟩, ?_⟩, ?_⟩
  ·rw [cmp_le w.1 w.2]; unfold K; rw [fairN_of h1, fairN_of h2]; exact h3
  ·rw [eq_inf h1 w.1, key_inf]; simp only [Bool.false_eq_true, if_false]; omega
  ·rw [eq_inf h2 w.2, key_inf]; simp only [if_true]; omega
theorem fairI_emp (x : Iv) : (fairI x).emp = false ↔ Full x := by
 rcases fairI_cases x with ⟨h, e⟩ | ⟨h, e⟩
 ·rw [e]; exact ⟨fun _ => h, fun _ => h.2⟩
 ·rw [e]; exact ⟨fun h' => by simp [noneI] at h', fun h' => absurd h' h⟩
theorem fairI_of {x : Iv} (h : Full x) : fairI x = x := by
 rcases fairI_cases x with ⟨_, e⟩ | ⟨h', _⟩
 ·exact e
 ·exact absurd h h'
theorem makeI_eq (a b : Num) : makeI a b = fairI ⟨false, fairN a, fairN b⟩ := by unfold makeI; rw [negNeg, negNeg]
def Fin (n : Num) : Prop := -TOP < K n ∧ K n < TOP
end Go.Proofs.Pl
namespace Go.Proofs.Pl
set_option linter.unusedSimpArgs false
set_option linter.unusedVariables false

theorem K_of {x : Num} (h : mayN x = true) : K x = key x := by unfold K; rw [fairN_of h]
theorem most_fold (xs : List Num) : ∀ (o : Num), mayN o = true → Wf o → (∀ x ∈ xs, Wf x) →
  mayN (xs.foldl mostStep o) = true ∧ Wf (xs.foldl mostStep o) ∧ key o ≤ key (xs.foldl mostStep o) ∧ (∀ x ∈ xs, K x ≤ key (xs.foldl mostStep o)) ∧ (∀ B, key o ≤ B → (∀ x ∈ xs, K x ≤ B) → key (xs.foldl mostStep o) ≤ B) := by
 induction xs with
 | nil => intro o ho wo _; exact ⟨ho, wo, Int.le_refl _, fun x hx => by simp at hx, fun B h _ => h⟩
 | cons a l ih =>
  intro o ho wo hw
  have wa : Wf a := hw a (by simp)
  have hs : mayN (mostStep o a) = true ∧ Wf (mostStep o a) ∧ key o ≤ key (mostStep o a) ∧ K a ≤ key (mostStep o a) ∧ (∀ B, key o ≤ B → K a ≤ B → key (mostStep o a) ≤ B) := by
   unfold mostStep
   by_cases h : 0 < cmpN a o
   ·rw [if_pos h]
    rw [cmp_gt wa wo, K_of ho] at h
    exact ⟨mayN_fair a, fairN_wf wa, by unfold K at h; omega, Int.le_refl _, fun B _ h2 => h2⟩
   ·rw [if_neg h]
    rw [cmp_gt wa wo, K_of ho] at h
    exact ⟨ho, wo, Int.le_refl _, by omega, fun B h1 _ => h1⟩
  obtain ⟨h1, h2, h3, h4, h5⟩ := hs
  obtain ⟨g1, g2, g3, g4, g5⟩ := ih (mostStep o a) h1 h2 (fun x hx => hw x (by simp [hx]))
  simp only [List.foldl_cons]
  refine ⟨g1, g2, by omega, ?_, fun B hB hx => g5 B (h5 B hB (hx a (by simp))) (fun x h => hx x (by simp [h]))⟩
  intro x hx
  rcases List.mem_cons.1 hx with rfl | hx
  ·omega
  ·exact g4 x hx
theorem least_fold (xs : List Num) : ∀ (o : Num), mayN o = true → Wf o → (∀ x ∈ xs, Wf x) →
  mayN (xs.foldl leastStep o) = true ∧ Wf (xs.foldl leastStep o) ∧ key (xs.foldl leastStep o) ≤ key o ∧ (∀ x ∈ xs, key (xs.foldl leastStep o) ≤ K x) ∧ (∀ B, B ≤ key o → (∀ x ∈ xs, B ≤ K x) → B ≤ key (xs.foldl leastStep o)) := by
 induction xs with
 | nil => intro o ho wo _; exact ⟨ho, wo, Int.le_refl _, fun x hx => by simp at hx, fun B h _ => h⟩
 | cons a l ih =>
  intro o ho wo hw
  have wa : Wf a := hw a (by simp)
  have hs : mayN (leastStep o a) = true ∧ Wf (leastStep o a) ∧ key (leastStep o a) ≤ key o ∧ key (leastStep o a) ≤ K a ∧ (∀ B, B ≤ key o → B ≤ K a → B ≤ key (leastStep o a)) := by
   unfold leastStep
   by_cases h : cmpN a o < 0
   ·rw [if_pos h]
    rw [cmp_lt wa wo, K_of ho] at h
    exact ⟨mayN_fair a, fairN_wf wa, by unfold K at h; omega, Int.le_refl _, fun B _ h2 => h2⟩
   ·rw [if_neg h]
    rw [cmp_lt wa wo, K_of ho] at h
    exact ⟨ho, wo, Int.le_refl _, by omega, fun B h1 _ => h1⟩
  obtain ⟨h1, h2, h3, h4, h5⟩ := hs
  obtain ⟨g1, g2, g3, g4, g5⟩ := ih (leastStep o a) h1 h2 (fun x hx => hw x (by simp [hx]))
  simp only [List.foldl_cons]
  refine ⟨g1, g2, by omega, ?_, fun B hB hx => g5 B (h5 B hB (hx a (by simp))) (fun x h => hx x (by simp [h]))⟩
  intro x hx
  rcases List.mem_cons.1 hx with rfl | hx
  ·omega
  ·exact g4 x hx
theorem mem_fulls (l : List Iv) (y : Iv) : y ∈ fulls l ↔ y ∈ l ∧ Full y := by
 unfold fulls
 rw [List.mem_filter, List.mem_map]
 constructor
 ·rintro ⟨⟨x, hx, rfl⟩, he⟩
  rcases fairI_cases x with ⟨h, e⟩ | ⟨h, e⟩
  ·rw [e]; exact ⟨hx, h⟩
  ·rw [e] at he; simp [noneI] at he
 ·rintro ⟨hy, h⟩
  exact ⟨⟨y, hy, fairI_of h⟩, by simp [h.2]⟩
theorem endsAll_iff (l : List Iv) : endsAll l = true ↔ ∀ x ∈ l, Full x := by
 unfold endsAll
 rw [List.all_eq_true]
 simp only [List.mem_map, forall_exists_index, and_imp, forall_apply_eq_imp_iff₂, Bool.not_eq_true']
 exact ⟨fun h x hx => (fairI_emp x).1 (h x hx), fun h x hx => (fairI_emp x).2 (h x hx)⟩
theorem ends_bd (l : List Iv) (hw : ∀ x ∈ l, WfIv x) :
  (mayN (mostN ((fulls l).map (·.lo))) = true ∧ Wf (mostN ((fulls l).map (·.lo))) ∧ (∀ x ∈ l, Full x → key x.lo ≤ key (mostN ((fulls l).map (·.lo)))) ∧ (∀ B, -TOP ≤ B → (∀ x ∈ l, Full x → key x.lo ≤ B) → key (mostN ((fulls l).map (·.lo))) ≤ B)) ∧
  (mayN (mostN ((fulls l).map (·.hi))) = true ∧ Wf (mostN ((fulls l).map (·.hi))) ∧ (∀ x ∈ l, Full x → key x.hi ≤ key (mostN ((fulls l).map (·.hi)))) ∧ (∀ B, -TOP ≤ B → (∀ x ∈ l, Full x → key x.hi ≤ B) → key (mostN ((fulls l).map (·.hi))) ≤ B)) ∧
  (mayN (leastN ((fulls l).map (·.lo))) = true ∧ Wf (leastN ((fulls l).map (·.lo))) ∧ (∀ x ∈ l, Full x → key (leastN ((fulls l).map (·.lo))) ≤ key x.lo) ∧ (∀ B, B ≤ TOP → (∀ x ∈ l, Full x → B ≤ key x.lo) → B ≤ key (leastN ((fulls l).map (·.lo))))) ∧
  (mayN (leastN ((fulls l).map (·.hi))) = true ∧ Wf (leastN ((fulls l).map (·.hi))) ∧ (∀ x ∈ l, Full x → key (leastN ((fulls l).map (·.hi))) ≤ key x.hi) ∧ (∀ B, B ≤ TOP → (∀ x ∈ l, Full x → B ≤ key x.hi) → B ≤ key (leastN ((fulls l).map (·.hi))))) := by
 have wl : ∀ x ∈ (fulls l).map (·.lo), Wf x := fun x hx => by
  obtain ⟨y, hy, rfl⟩ := List.mem_map.1 hx
  exact (hw y ((mem_fulls l y).1 hy).1).1
 have wh : ∀ x ∈ (fulls l).map (·.hi), Wf x := fun x hx => by
  obtain ⟨y, hy, rfl⟩ := List.mem_map.1 hx
  exact (hw y ((mem_fulls l y).1 hy).1).2
 have kl : ∀ x ∈ l, Full x → K x.lo = key x.lo ∧ K x.hi = key x.hi := fun x hx h => by
  have := (full_iff (hw x hx)).1 h
  exact ⟨K_of this.2.1, K_of this.2.2.1⟩
 have ml : ∀ x ∈ l, Full x → x.lo ∈ (fulls l).map (·.lo) := fun x hx h => List.mem_map.2 ⟨x, (mem_fulls l x).2 ⟨hx, h⟩, rfl⟩
 have mh : ∀ x ∈ l, Full x → x.hi ∈ (fulls l).map (·.hi) := fun x hx h => List.mem_map.2 ⟨x, (mem_fulls l x).2 ⟨hx, h⟩, rfl⟩
 have el : ∀ (P : Num → Prop), (∀ x ∈ l, Full x → P x.lo) → ∀ z ∈ (fulls l).map (·.lo), P z := fun P h z hz => by
  obtain ⟨y, hy, rfl⟩ := List.mem_map.1 hz
  exact h y ((mem_fulls l y).1 hy).1 ((mem_fulls l y).1 hy).2
 have eh : ∀ (P : Num → Prop), (∀ x ∈ l, Full x → P x.hi) → ∀ z ∈ (fulls l).map (·.hi), P z := fun P h z hz => by
  obtain ⟨y, hy, rfl⟩ := List.mem_map.1 hz
  exact h y ((mem_fulls l y).1 hy).1 ((mem_fulls l y).1 hy).2
 have kt : key (infN true) = -TOP := by rw [key_inf]; rfl
 have kf : key (infN false) = TOP := by rw [key_inf]; rfl
 refine ⟨?_, ?_, ?_, ?_⟩
 ·obtain ⟨h1, h2, h3, h4, h5⟩ := most_fold _ (infN true) (may_inf true) (wf_inf true) wl
  exact ⟨h1, h2, fun x hx h => by rw [← (kl x hx h).1]; exact h4 _ (ml x hx h), fun B hB h => h5 B (by omega) (el (fun z => K z ≤ B) (fun x hx hf => by rw [(kl x hx hf).1]; exact h x hx hf))⟩
 ·obtain ⟨h1, h2, h3, h4, h5⟩ := most_fold _ (infN true) (may_inf true) (wf_inf true) wh
  exact ⟨h1, h2, fun x hx h => by rw [← (kl x hx h).2]; exact h4 _ (mh x hx h), fun B hB h => h5 B (by omega) (eh (fun z => K z ≤ B) (fun x hx hf => by rw [(kl x hx hf).2]; exact h x hx hf))⟩
 ·obtain ⟨h1, h2, h3, h4, h5⟩ := least_fold _ (infN false) (may_inf false) (wf_inf false) wl
  exact ⟨h1, h2, fun x hx h => by rw [← (kl x hx h).1]; exact h4 _ (ml x hx h), fun B hB h => h5 B (by omega) (el (fun z => B ≤ K z) (fun x hx hf => by rw [(kl x hx hf).1]; exact h x hx hf))⟩
 ·obtain ⟨h1, h2, h3, h4, h5⟩ := least_fold _ (infN false) (may_inf false) (wf_inf false) wh
  exact ⟨h1, h2, fun x hx h => by rw [← (kl x hx h).2]; exact h4 _ (mh x hx h), fun B hB h => h5 B (by omega) (eh (fun z => B ≤ K z) (fun x hx hf => by rw [(kl x hx hf).2]; exact h x hx hf))⟩
theorem make_full {a b : Num} (ha : mayN a = true) (hb : mayN b = true) (wa : Wf a) (wb : Wf b) (h : key a ≤ key b ∧ key a < TOP ∧ -TOP < key b) : makeI a b = ⟨false, a, b⟩ ∧ Full ⟨false, a, b⟩ := by
 have hf : Full (⟨false, a, b⟩ : Iv) := (full_iff (x := ⟨false, a, b⟩) ⟨wa, wb⟩).2 ⟨rfl, ha, hb, h⟩
 rw [makeI_eq, fairN_of ha, fairN_of hb, fairI_of hf]
 exact ⟨rfl, hf⟩
theorem make_none {a b : Num} (ha : mayN a = true) (hb : mayN b = true) (wa : Wf a) (wb : Wf b) (h : ¬ (key a ≤ key b ∧ key a < TOP ∧ -TOP < key b)) : makeI a b = noneI := by
 rw [makeI_eq, fairN_of ha, fairN_of hb]
 rcases fairI_cases ⟨false, a, b⟩ with ⟨hf, _⟩ | ⟨_, e⟩
 ·exact absurd ((full_iff (x := ⟨false, a, b⟩) ⟨wa, wb⟩).1 hf).2.2.2 h
 ·exact e
theorem none_not_full : ¬ Full noneI := fun h => by simp [Full, noneI] at h
theorem make_wf {a b : Num} (wa : Wf a) (wb : Wf b) : WfIv (makeI a b) := by rw [makeI_eq]; exact fairI_wf ⟨fairN_wf wa, fairN_wf wb⟩
theorem meet_wf (l : List Iv) (hw : ∀ x ∈ l, WfIv x) : WfIv (meetI l) := by
 unfold meetI
 obtain ⟨h1, h2, h3, h4⟩ := ends_bd l hw
 split
 ·exact make_wf h1.2.1 h4.2.1
 ·exact noneI_wf
theorem hull_wf (l : List Iv) (hw : ∀ x ∈ l, WfIv x) : WfIv (hullI l) := by
 unfold hullI
 obtain ⟨h1, h2, h3, h4⟩ := ends_bd l hw
 split
 ·exact noneI_wf
 ·exact make_wf h3.2.1 h2.2.1
theorem meet_full (l : List Iv) (hw : ∀ x ∈ l, WfIv x) (hf : ∀ x ∈ l, Full x) (hk : ∀ x ∈ l, ∀ y ∈ l, key x.lo ≤ key y.hi) :
  Full (meetI l) ∧ (∀ x ∈ l, key x.lo ≤ key (meetI l).lo) ∧ (∀ B, -TOP ≤ B → (∀ x ∈ l, key x.lo ≤ B) → key (meetI l).lo ≤ B) ∧ (∀ x ∈ l, key (meetI l).hi ≤ key x.hi) ∧ (∀ B, B ≤ TOP → (∀ x ∈ l, B ≤ key x.hi) → B ≤ key (meetI l).hi) := by
 obtain ⟨h1, h2, h3, h4⟩ := ends_bd l hw
 have ht : (0 : Int) < TOP := by decide +kernel
 have hb : ∀ x ∈ l, key x.lo < TOP ∧ -TOP < key x.hi := fun x hx => ((full_iff (hw x hx)).1 (hf x hx)).2.2.2.2
 have hlo : ∀ x ∈ l, -TOP ≤ key x.hi ∧ key x.lo ≤ TOP := fun x hx => by have := hb x hx; omega
 have e1 : key (mostN ((fulls l).map (·.lo))) ≤ TOP - 1 := h1.2.2.2 _ (by omega) (fun x hx _ => by have := (hb x hx).1; omega)
 have e2 : -TOP + 1 ≤ key (leastN ((fulls l).map (·.hi))) := h4.2.2.2 _ (by omega) (fun x hx _ => by have := (hb x hx).2; omega)
 have e3 : key (mostN ((fulls l).map (·.lo))) ≤ key (leastN ((fulls l).map (·.hi))) :=
  h4.2.2.2 _ (by omega) (fun y hy _ => h1.2.2.2 _ (by have := hb y hy; omega) (fun x hx _ => hk x hx y hy))
 obtain ⟨em, ef⟩ := make_full h1.1 h4.1 h1.2.1 h4.2.1 ⟨e3, by omega, by omega⟩
 have e : meetI l = ⟨false, mostN ((fulls l).map (·.lo)), leastN ((fulls l).map (·.hi))⟩ := by
  unfold meetI
  rw [if_pos ((endsAll_iff l).2 hf), em]
 rw [e]
 exact ⟨ef, fun x hx => h1.2.2.1 x hx (hf x hx), fun B hB h => h1.2.2.2 B hB (fun x hx _ => h x hx), fun x hx => h4.2.2.1 x hx (hf x hx), fun B hB h => h4.2.2.2 B hB (fun x hx _ => h x hx)⟩
theorem meet_none (l : List Iv) (hw : ∀ x ∈ l, WfIv x) (h : ¬ ((∀ x ∈ l, Full x) ∧ ∀ x ∈ l, ∀ y ∈ l, key x.lo ≤ key y.hi)) : meetI l = noneI := by
 obtain ⟨h1, h2, h3, h4⟩ := ends_bd l hw
 unfold meetI
 by_cases hf : ∀ x ∈ l, Full x
 ·rw [if_pos ((endsAll_iff l).2 hf)]
  refine make_none h1.1 h4.1 h1.2.1 h4.2.1 (fun hh => h ⟨hf, fun x hx y hy => ?_⟩)
  have g1 := h1.2.2.1 x hx (hf x hx)
  have g2 := h4.2.2.1 y hy (hf y hy)
  omega
 ·rw [if_neg (fun hh => hf ((endsAll_iff l).1 hh))]
end Go.Proofs.Pl
namespace Go.Proofs.Pl
set_option linter.unusedVariables false
set_option linter.unusedSimpArgs false

abbrev Code := Option (Int × Int)
def mem : Code → Int → Prop
 | none, _ => False
 | some (l, h), k => l ≤ k ∧ k ≤ h
def Ok : Code → Prop
 | none => True
 | some (l, h) => l ≤ h ∧ -TOP ≤ l ∧ h ≤ TOP
def sub (c d : Code) : Prop := ∀ k, mem c k → mem d k
theorem sub_anti {c d : Code} (hc : Ok c) (hd : Ok d) (h1 : sub c d) (h2 : sub d c) : c = d := by
 match c, d, hc, hd with
 | none, none, _, _ => rfl
 | none, some (l, h), _, hd => exact absurd (h2 l ⟨Int.le_refl _, hd.1⟩) id
 | some (l, h), none, hc, _ => exact absurd (h1 l ⟨Int.le_refl _, hc.1⟩) id
 | some (l, h), some (l', h'), hc, hd =>
  have a1 := h1 l ⟨Int.le_refl _, hc.1⟩
  have a2 := h1 h ⟨hc.1, Int.le_refl _⟩
  have a3 := h2 l' ⟨Int.le_refl _, hd.1⟩
  have a4 := h2 h' ⟨hd.1, Int.le_refl _⟩
  simp only [mem] at a1 a2 a3 a4
  obtain rfl : l = l' := by omega
  obtain rfl : h = h' := by omega
  rfl
theorem mem_ext {c d : Code} (hc : Ok c) (hd : Ok d) (h : ∀ k, mem c k ↔ mem d k) : c = d := sub_anti hc hd (fun k => (h k).1) (fun k => (h k).2)
open Classical in
noncomputable def code (x : Iv) : Code := if Full x then some (key x.lo, key x.hi) else none
theorem code_full {x : Iv} (h : Full x) : code x = some (key x.lo, key x.hi) := by unfold code; rw [if_pos h]
theorem code_not {x : Iv} (h : ¬ Full x) : code x = none := by unfold code; rw [if_neg h]
theorem code_ok {x : Iv} (w : WfIv x) : Ok (code x) := by
 by_cases h : Full x
 ·rw [code_full h]
  have g := (full_iff w).1 h
  have b1 := key_bd g.2.1 w.1
  have b2 := key_bd g.2.2.1 w.2
  exact ⟨by omega, by omega, by omega⟩
 ·rw [code_not h]; trivial
theorem mem_code {x : Iv} {k : Int} : mem (code x) k ↔ Full x ∧ key x.lo ≤ k ∧ k ≤ key x.hi := by
 by_cases h : Full x
 ·rw [code_full h]; simp [mem, h]
 ·rw [code_not h]; simp [mem, h]
theorem may_none {x : Iv} (h : mayI x = true) (hf : ¬ Full x) : x = noneI := by
 by_cases e : x.emp = true
 ·unfold mayI at h
  rw [if_pos e] at h
  exact of_decide_eq_true h
 ·exact absurd ⟨h, by simpa using e⟩ hf
theorem eq_of_code {x y : Iv} (hx : mayI x = true) (hy : mayI y = true) (wx : WfIv x) (wy : WfIv y) (h : code x = code y) : x = y := by
 by_cases fx : Full x
 ·by_cases fy : Full y
  ·rw [code_full fx, code_full fy] at h
   have gx := (full_iff wx).1 fx
   have gy := (full_iff wy).1 fy
   simp only [Option.some.injEq, Prod.mk.injEq] at h
   have e1 := key_inj gx.2.1 gy.2.1 wx.1 wy.1 h.1
   have e2 := key_inj gx.2.2.1 gy.2.2.1 wx.2 wy.2 h.2
   exact Iv.ext (by rw [gx.1, gy.1]) e1 e2
  ·rw [code_full fx, code_not fy] at h; cases h
 ·by_cases fy : Full y
  ·rw [code_not fx, code_full fy] at h; cases h
  ·rw [may_none hx fx, may_none hy fy]
theorem eq_iff {x y : Iv} (hx : mayI x = true) (hy : mayI y = true) (wx : WfIv x) (wy : WfIv y) : x = y ↔ (∀ k, mem (code x) k ↔ mem (code y) k) :=
 ⟨fun h => by subst h; exact fun _ => Iff.rfl, fun h => eq_of_code hx hy wx wy (mem_ext (code_ok wx) (code_ok wy) h)⟩
theorem may_noneI : mayI noneI = true := by decide +kernel
theorem may_fairI (x : Iv) : mayI (fairI x) = true := by
 rcases fairI_cases x with ⟨h, e⟩ | ⟨_, e⟩
 ·rw [e]; exact h.1
 ·rw [e]; exact may_noneI
theorem may_make (a b : Num) : mayI (makeI a b) = true := by rw [makeI_eq]; exact may_fairI _
theorem may_meet (l : List Iv) : mayI (meetI l) = true := by
 unfold meetI
 split
 ·exact may_make _ _
 ·exact may_noneI
theorem mem_meet (l : List Iv) (hw : ∀ x ∈ l, WfIv x) (k : Int) : mem (code (meetI l)) k ↔ (-TOP ≤ k ∧ k ≤ TOP) ∧ ∀ x ∈ l, mem (code x) k := by
 simp only [mem_code]
 by_cases hc : (∀ x ∈ l, Full x) ∧ ∀ x ∈ l, ∀ y ∈ l, key x.lo ≤ key y.hi
 ·obtain ⟨g0, g1, g2, g3, g4⟩ := meet_full l hw hc.1 hc.2
  have b := code_ok (meet_wf l hw)
  rw [code_full g0] at b
  simp only [Ok] at b
  constructor
  ·rintro ⟨_, h1, h2⟩
   refine ⟨⟨by omega, by omega⟩, fun x hx => ⟨hc.1 x hx, ?_, ?_⟩⟩
   ·have := g1 x hx; omega
   ·have := g3 x hx; omega
  ·rintro ⟨h1, h2⟩
   exact ⟨g0, g2 k h1.1 fun x hx => (h2 x hx).2.1, g4 k h1.2 fun x hx => (h2 x hx).2.2⟩
 ·rw [meet_none l hw hc]
  constructor
  ·rintro ⟨h, _⟩; exact absurd h none_not_full
  ·rintro ⟨_, h⟩
   refine absurd ⟨fun x hx => (h x hx).1, fun x hx y hy => ?_⟩ hc
   have := h x hx; have := h y hy; omega
theorem eq_meet {x : Iv} (l : List Iv) (hw : ∀ y ∈ l, WfIv y) (hx : mayI x = true) (wx : WfIv x) (h : ∀ k, mem (code x) k ↔ (-TOP ≤ k ∧ k ≤ TOP) ∧ ∀ y ∈ l, mem (code y) k) : meetI l = x :=
 (eq_iff (may_meet l) hx (meet_wf l hw) wx).2 fun k => (mem_meet l hw k).trans (h k).symm
theorem wf2 {a b : Iv} (wa : WfIv a) (wb : WfIv b) : ∀ x ∈ [a, b], WfIv x := by
 intro x hx
 rcases List.mem_cons.1 hx with rfl | hx
 ·exact wa
 ·rw [List.mem_singleton.1 hx]; exact wb
theorem all2 {a b : Iv} {P : Iv → Prop} : (∀ x ∈ [a, b], P x) ↔ P a ∧ P b := by simp
end Go.Proofs.Pl
namespace Go.Proofs.Pl
set_option linter.unusedSimpArgs false
set_option linter.unusedVariables false

def boundN (neg : Bool) (m e : Int) (away : Bool) : Num :=
  if 1048576 < e then (if away = true then ⟨2, neg, 0, 0⟩ else ⟨1, neg, 18446744073709551615, 1048576⟩)
  else if e < -1048576 then (if away = true then ⟨1, neg, 9223372036854775808, -1048576⟩ else ⟨0, false, 0, 0⟩)
  else ⟨1, neg, m, e⟩
def growN (neg : Bool) (m e : Int) (cut away : Bool) : Num :=
  if (cut && away) = true then (if m = 18446744073709551615 then boundN neg 9223372036854775808 (e + 1) away else boundN neg (m + 1) e away)
  else boundN neg m e away
def Norm (s m k r : Nat) : Prop := s = m * 2 ^ k + r ∧ r < 2 ^ k ∧ 9223372036854775808 ≤ m ∧ m < 18446744073709551616
theorem Norm.le {s t m k r m' k' r' : Nat} (h : Norm s m k r) (g : Norm t m' k' r') (hst : s ≤ t) : k < k' ∨ (k = k' ∧ (m < m' ∨ (m = m' ∧ r ≤ r'))) := by
  obtain ⟨rfl, h2, h3, h4⟩ := h
  obtain ⟨rfl, g2, g3, g4⟩ := g
  rcases Nat.lt_trichotomy k k' with hk | hk | hk
  · exact .inl hk
  · subst hk
    refine .inr ⟨rfl, ?_⟩
    rcases Nat.lt_trichotomy m m' with hm | hm | hm
    · exact .inl hm
    · subst hm; exact .inr ⟨rfl, by omega⟩
    · exfalso
      have : (m' + 1) * 2 ^ k ≤ m * 2 ^ k := Nat.mul_le_mul_right _ hm
      rw [Nat.add_mul, Nat.one_mul] at this
      omega
  · exfalso
    have e : 2 ^ k' * 2 ≤ 2 ^ k := by
      rw [← Nat.pow_succ]; exact Nat.pow_le_pow_right (by omega) hk
    have h5 : 9223372036854775808 * (2 ^ k' * 2) ≤ m * 2 ^ k := Nat.mul_le_mul h3 e
    have h6 : (m' + 1) * 2 ^ k' ≤ 18446744073709551616 * 2 ^ k' := Nat.mul_le_mul_right _ g4
    rw [Nat.add_mul, Nat.one_mul] at h6
    omega
def BB : Int := 1048704
def Rnd (s : Int) (up : Bool) (c : Num) : Prop :=
  (s = 0 ∧ c = zero) ∨ ∃ m k r : Nat, s ≠ 0 ∧ Norm s.natAbs m k r ∧ c = growN (decide (s < 0)) m (k - BB) (decide (r ≠ 0)) (up != decide (s < 0))
theorem grow_mag (n away : Bool) (m k r : Nat) (h1 : 9223372036854775808 ≤ m) (h2 : m < 18446744073709551616) :
    mayN (growN n m (k - BB) (decide (r ≠ 0)) away) = true ∧ Wf (growN n m (k - BB) (decide (r ≠ 0)) away) ∧ 0 ≤ mag (growN n m (k - BB) (decide (r ≠ 0)) away) ∧ key (growN n m (k - BB) (decide (r ≠ 0)) away) = if n = true then -(mag (growN n m (k - BB) (decide (r ≠ 0)) away)) else mag (growN n m (k - BB) (decide (r ≠ 0)) away) := by
  unfold growN boundN BB
  refine ⟨?_, ?_, ?_, ?_⟩
  · (repeat' split) <;> unfold mayN <;> simp <;> omega
  · (repeat' split) <;> unfold Wf <;> simp <;> omega
  · (repeat' split) <;> unfold mag TOP <;> simp <;> omega
  · (repeat' split) <;> unfold key mag <;> simp_all
theorem grow_le (n n' away : Bool) {m k r m' k' r' : Nat} (h1 : 9223372036854775808 ≤ m) (h2 : m < 18446744073709551616) (g1 : 9223372036854775808 ≤ m') (g2 : m' < 18446744073709551616)
    (h : k < k' ∨ (k = k' ∧ (m < m' ∨ (m = m' ∧ r ≤ r')))) : mag (growN n m (k - BB) (decide (r ≠ 0)) away) ≤ mag (growN n' m' (k' - BB) (decide (r' ≠ 0)) away) := by
  have hA : ∀ (n : Bool) (m k r : Nat), 9223372036854775808 ≤ m → m < 18446744073709551616 → mag (growN n m (k - BB) (decide (r ≠ 0)) away) =
      (if away = true then
        (if r ≠ 0 then (if m = 18446744073709551615 then (if (1048576 : Int) < k - 1048704 + 1 then TOP else if (k : Int) - 1048704 + 1 < -1048576 then 9223372036854775809 else ((k : Int) - 1048704 + 1 + 1048576) * 18446744073709551616 + 9223372036854775809) else (if (1048576 : Int) < k - 1048704 then TOP else if (k : Int) - 1048704 < -1048576 then 9223372036854775809 else ((k : Int) - 1048704 + 1048576) * 18446744073709551616 + (m + 1) + 1)) else (if (1048576 : Int) < k - 1048704 then TOP else if (k : Int) - 1048704 < -1048576 then 9223372036854775809 else ((k : Int) - 1048704 + 1048576) * 18446744073709551616 + m + 1))
       else (if (1048576 : Int) < k - 1048704 then 2097152 * 18446744073709551616 + 18446744073709551616 else if (k : Int) - 1048704 < -1048576 then 0 else ((k : Int) - 1048704 + 1048576) * 18446744073709551616 + m + 1)) := by
    intro n m k r h1 h2
    unfold growN boundN BB
    cases away <;> by_cases hr : r = 0 <;> simp only [hr, ne_eq, not_true_eq_false, not_false_eq_true, decide_true, decide_false, Bool.and_self, Bool.and_false, Bool.false_and, Bool.true_and, Bool.false_eq_true, if_false, if_true] <;> (repeat' split) <;> unfold mag <;> simp <;> omega
  rw [hA n m k r h1 h2, hA n' m' k' r' g1 g2]
  unfold TOP
  cases away
  · simp only [Bool.false_eq_true, if_false]
    rcases h with h | ⟨rfl, h | ⟨rfl, h⟩⟩ <;> (repeat' split) <;> omega
  · simp only [if_true]
    by_cases hr : r = 0 <;> by_cases hr' : r' = 0 <;> simp only [hr, hr', ne_eq, not_true_eq_false, not_false_eq_true, if_true, if_false] <;> rcases h with h | ⟨rfl, h | ⟨rfl, h⟩⟩ <;> (repeat' split) <;> omega
theorem Rnd.may {s : Int} {up : Bool} {c : Num} (h : Rnd s up c) : mayN c = true ∧ Wf c := by
  rcases h with ⟨_, rfl⟩ | ⟨m, k, r, h0, ⟨_, _, h3, h4⟩, rfl⟩
  · exact ⟨mayN_zero, zero_wf⟩
  · have := grow_mag (decide (s < 0)) (up != decide (s < 0)) m k r h3 h4
    exact ⟨this.1, this.2.1⟩
theorem key_zero : key zero = 0 := by decide +kernel
theorem Rnd.mono {s t : Int} {up : Bool} {c d : Num} (h : Rnd s up c) (g : Rnd t up d) (hst : s ≤ t) : key c ≤ key d := by
  rcases h with ⟨rfl, rfl⟩ | ⟨m, k, r, h0, hN, rfl⟩
  · rw [key_zero]
    rcases g with ⟨_, rfl⟩ | ⟨m', k', r', g0, gN, rfl⟩
    · rw [key_zero]; exact Int.le_refl _
    · have := grow_mag (decide (t < 0)) (up != decide (t < 0)) m' k' r' gN.2.2.1 gN.2.2.2
      rw [this.2.2.2, if_neg (by simp; omega)]
      exact this.2.2.1
  · have hm := grow_mag (decide (s < 0)) (up != decide (s < 0)) m k r hN.2.2.1 hN.2.2.2
    rcases g with ⟨rfl, rfl⟩ | ⟨m', k', r', g0, gN, rfl⟩
    · rw [key_zero, hm.2.2.2, if_pos (by simp; omega)]
      have := hm.2.2.1
      omega
    · have gm := grow_mag (decide (t < 0)) (up != decide (t < 0)) m' k' r' gN.2.2.1 gN.2.2.2
      rw [hm.2.2.2, gm.2.2.2]
      by_cases hs : s < 0
      · by_cases ht : t < 0
        · rw [if_pos (decide_eq_true hs), if_pos (decide_eq_true ht)]
          rw [decide_eq_true hs, decide_eq_true ht]
          have := grow_le true true (up != true) gN.2.2.1 gN.2.2.2 hN.2.2.1 hN.2.2.2 (gN.le hN (by omega))
          omega
        · rw [if_pos (decide_eq_true hs), if_neg (by simpa using ht)]
          have h1 := hm.2.2.1
          have h2 := gm.2.2.1
          omega
      · have ht : ¬ t < 0 := by omega
        rw [if_neg (by simpa using hs), if_neg (by simpa using ht)]
        rw [decide_eq_false hs, decide_eq_false ht]
        exact grow_le false false (up != false) hN.2.2.1 hN.2.2.2 gN.2.2.1 gN.2.2.2 (hN.le gN (by omega))
theorem Rnd.uniq {s : Int} {up : Bool} {c d : Num} (h : Rnd s up c) (g : Rnd s up d) : c = d :=
  key_inj h.may.1 g.may.1 h.may.2 g.may.2 (Int.le_antisymm (h.mono g (Int.le_refl _)) (g.mono h (Int.le_refl _)))
def valN (x : Num) : Int := (if x.n = true then -1 else 1) * (x.m * 2 ^ (x.e + BB).toNat)
def Finite (x : Num) : Prop := mayN x = true ∧ x.k ≠ 2 ∧ Wf x
theorem Rnd.self {x : Num} (h : Finite x) (up : Bool) : Rnd (valN x) up x := by
  obtain ⟨hm, hk, hw⟩ := h
  obtain ⟨k, n, m, e⟩ := x
  rcases may_cases hm with ⟨h1, h2, h3, h4⟩ | ⟨h1, h2, h3, h4⟩ | ⟨h1, _⟩
  · left
    simp only at h1 h2 h3 h4
    subst h1 h2 h3 h4
    exact ⟨by unfold valN; simp, rfl⟩
  · right
    simp only at h1 h2 h3 h4
    subst h1
    unfold Wf at hw
    simp only at hw
    obtain ⟨M, rfl⟩ := Int.eq_ofNat_of_zero_le hw.1
    obtain ⟨j, hj⟩ := Int.eq_ofNat_of_zero_le (show 0 ≤ e + BB by unfold BB; omega)
    have hp : 0 < M * 2 ^ j := Nat.mul_pos (by omega) (Nat.pow_pos (by omega))
    have hv : valN ⟨1, n, (M : Int), e⟩ = (if n = true then -1 else 1) * ((M * 2 ^ j : Nat) : Int) := by
      unfold valN
      simp only [hj, Int.toNat_natCast]
      congr 1
    have hab : (valN ⟨1, n, (M : Int), e⟩).natAbs = M * 2 ^ j := by
      rw [hv]; generalize M * 2 ^ j = q; cases n <;> simp <;> omega
    have hs : decide (valN ⟨1, n, (M : Int), e⟩ < 0) = n := by
      rw [hv]
      generalize M * 2 ^ j = q at hp
      cases n
      · simp
      · simp only [if_true]; rw [decide_eq_true_iff]; omega
    refine ⟨M, j, 0, ?_, ?_, ?_⟩
    · intro hz; rw [hz] at hab; simp at hab; omega
    · rw [hab]; exact ⟨by omega, Nat.pow_pos (by omega), by omega, by omega⟩
    · rw [hs]
      have he : (j : Int) - BB = e := by omega
      rw [he]
      unfold growN boundN
      simp only [ne_eq, not_true_eq_false, decide_false, Bool.false_and, Bool.false_eq_true, if_false]
      rw [if_neg (by omega), if_neg (by omega)]
  · exact absurd h1 hk
end Go.Proofs.Pl
namespace Go.Proofs.Pl
set_option linter.unusedSimpArgs false
set_option linter.unusedVariables false

def lowHi (m d : Nat) : Nat := if d < 64 then m / 2 ^ d else 0
def lowLo (m d : Nat) : Nat := if d < 64 then m * 2 ^ (64 - d) % 18446744073709551616 else if d < 128 then m / 2 ^ (d - 64) else 0
def lowCut (m d : Nat) : Bool := if d < 64 then false else if d < 128 then decide (m * 2 ^ (128 - d) % 18446744073709551616 ≠ 0) else true
theorem W64 : (2 : Nat) ^ 64 = 18446744073709551616 := by decide
theorem pw {W : Nat} (hW : W = 18446744073709551616) {d : Nat} (h : d ≤ 64) : W = 2 ^ d * 2 ^ (64 - d) := by
 rw [hW, ← W64, ← Nat.pow_add]; congr 1; omega
theorem mul_zero' {a b : Nat} (h : a * b = 0) (hb : 0 < b) : a = 0 := by
 rcases Nat.mul_eq_zero.1 h with h | h
 ·exact h
 ·omega
theorem low_spec (W : Nat) (hW : W = 18446744073709551616) (m d : Nat) (h0 : 0 < m) (hm : m < W) : ∃ rem, m * W = (lowHi m d * W + lowLo m d) * 2 ^ d + rem ∧ rem < 2 ^ d ∧ (lowCut m d = true ↔ rem ≠ 0) ∧ lowHi m d ≤ m ∧ lowLo m d < W := by
 have hWp : 0 < W := by omega
 unfold lowHi lowLo lowCut
 rw [← hW]
 by_cases h1 : d < 64
 ·simp only [if_pos h1]
  have e64 := pw hW (Nat.le_of_lt h1)
  refine ⟨0, ?_, Nat.pow_pos (by decide), by simp, Nat.div_le_self _ _, Nat.mod_lt _ hWp⟩
  have e1 : m * 2 ^ (64 - d) % W = (m % 2 ^ d) * 2 ^ (64 - d) := by
   have h2 := Nat.mul_mod_mul_right (2 ^ (64 - d)) m (2 ^ d)
   rw [← e64] at h2
   exact h2
  rw [e1, Nat.add_zero]
  have e3 := Nat.div_add_mod m (2 ^ d)
  generalize 2 ^ (64 - d) = q at e64
  generalize m / 2 ^ d = a at e3
  generalize m % 2 ^ d = b at e3
  generalize 2 ^ d = P at e64 e3
  rw [e64, ← e3, Nat.add_mul, Nat.add_mul]
  congr 1
  ·rw [Nat.mul_comm P a, Nat.mul_assoc, Nat.mul_assoc]; congr 1; rw [Nat.mul_comm P (P * q), Nat.mul_comm P q]
  ·rw [Nat.mul_comm P q, ← Nat.mul_assoc]
 ·simp only [if_neg h1]
  by_cases h2 : d < 128
  ·simp only [if_pos h2]
   have eP : (2 : Nat) ^ d = 2 ^ (d - 64) * W := by
    have := Nat.pow_add 2 (d - 64) 64
    rw [W64, ← hW, show d - 64 + 64 = d from by omega] at this
    exact this
   have e9 : 128 - d = 64 - (d - 64) := by omega
   rw [e9]
   have hf : d - 64 < 64 := by omega
   generalize 2 ^ d = Q at eP
   generalize d - 64 = f at eP hf
   have e64 := pw hW (Nat.le_of_lt hf)
   have e1 : m * 2 ^ (64 - f) % W = (m % 2 ^ f) * 2 ^ (64 - f) := by
    have h2 := Nat.mul_mod_mul_right (2 ^ (64 - f)) m (2 ^ f)
    rw [← e64] at h2
    exact h2
   have hp : 0 < 2 ^ (64 - f) := Nat.pow_pos (by decide)
   have hmod : m % 2 ^ f < 2 ^ f := Nat.mod_lt _ (Nat.pow_pos (by decide))
   have e3 := Nat.div_add_mod m (2 ^ f)
   have hdl : m / 2 ^ f < W := Nat.lt_of_le_of_lt (Nat.div_le_self _ _) hm
   rw [e1]
   generalize m / 2 ^ f = a at e3 hdl
   generalize m % 2 ^ f = b at e3 hmod
   generalize 2 ^ f = P at e3 hmod eP
   generalize 2 ^ (64 - f) = q at hp
   refine ⟨b * W, ?_, ?_, ?_, Nat.zero_le _, hdl⟩
   ·rw [eP, Nat.zero_mul, Nat.zero_add, ← e3, Nat.add_mul]
    congr 1
    rw [Nat.mul_comm P a, Nat.mul_assoc]
   ·rw [eP]; exact Nat.mul_lt_mul_of_pos_right hmod hWp
   ·rw [decide_eq_true_iff]
    constructor
    ·intro h h'
     exact h (by rw [mul_zero' h' hWp, Nat.zero_mul])
    ·intro h h'
     exact h (by rw [mul_zero' h' hp, Nat.zero_mul])
  ·simp only [if_neg h2]
   refine ⟨m * W, by simp, ?_, ?_, Nat.zero_le _, hWp⟩
   ·have h3 : (2 : Nat) ^ 128 ≤ 2 ^ d := Nat.pow_le_pow_right (by decide) (by omega)
    have h4 : m * W < W * W := Nat.mul_lt_mul_of_pos_right hm hWp
    have h5 : W * W = 2 ^ 128 := by rw [hW]
    rw [h5] at h4
    exact Nat.lt_of_lt_of_le h4 h3
   ·refine ⟨fun _ h => ?_, fun _ => trivial⟩
    have := mul_zero' h hWp
    omega
theorem plus_norm (W : Nat) (hW : W = 18446744073709551616) (M m d k : Nat) (h0 : 0 < m) (hm : m < W) :
  ∃ r, ((lowCut m d = true ∨ lowLo m d ≠ 0) ↔ r ≠ 0) ∧ M * 2 ^ (k + d) + m * 2 ^ k = (M + lowHi m d) * 2 ^ (k + d) + r ∧ r < 2 ^ (k + d) := by
 obtain ⟨rem, h1, h2, h3, h4, h5⟩ := low_spec W hW m d h0 hm
 have hWp : 0 < W := by omega
 have hp : 0 < 2 ^ d := Nat.pow_pos (by decide)
 have hk : 0 < 2 ^ k := Nat.pow_pos (by decide)
 clear hW hm h4
 generalize lowHi m d = hi at *
 generalize lowLo m d = lo at *
 generalize lowCut m d = ct at *
 rw [Nat.pow_add]
 generalize 2 ^ d = P at *
 generalize 2 ^ k = K at *
 have e1 : (hi * W + lo) * P + rem = hi * P * W + (lo * P + rem) := by
  rw [Nat.add_mul, Nat.add_assoc]; congr 1; rw [Nat.mul_assoc, Nat.mul_assoc, Nat.mul_comm W P]
 rw [e1] at h1
 have hlt : lo * P + rem < W * P := by
  have h6 : (lo + 1) * P ≤ W * P := Nat.mul_le_mul_right _ h5
  rw [Nat.add_mul, Nat.one_mul] at h6
  omega
 have hle : hi * P ≤ m := by
  rcases Nat.lt_or_ge m (hi * P) with h | h
  ·have := Nat.mul_lt_mul_of_pos_right h hWp
   omega
  ·exact h
 obtain ⟨T, hT⟩ := Nat.exists_eq_add_of_le hle
 have hTe : T * W = lo * P + rem := by
  rw [hT, Nat.add_mul] at h1
  omega
 have hTl : T < P := by
  rcases Nat.lt_or_ge T P with h | h
  ·exact h
  ·have := Nat.mul_le_mul_right W h
   rw [Nat.mul_comm P] at this
   omega
 refine ⟨T * K, ?_, ?_, ?_⟩
 ·rw [h3]
  constructor
  ·intro h h'
   have hT0 := mul_zero' h' hk
   rw [hT0, Nat.zero_mul] at hTe
   have hz : lo * P = 0 ∧ rem = 0 := by omega
   rcases h with h | h
   ·exact h hz.2
   ·exact h (mul_zero' hz.1 hp)
  ·intro h
   by_cases hl : lo = 0
   ·left
    intro hr
    rw [hl, hr, Nat.zero_mul] at hTe
    exact h (by rw [mul_zero' hTe hWp, Nat.zero_mul])
   ·exact .inr hl
 ·rw [hT, Nat.add_mul M, Nat.add_mul (hi * P), Nat.add_assoc]
  congr 2
  rw [Nat.mul_assoc, Nat.mul_comm P K]
 ·rw [Nat.mul_comm K]
  exact Nat.mul_lt_mul_of_pos_right hTl hk
theorem minus_words (W : Nat) (hW : W = 18446744073709551616) (M m d k : Nat) (h0 : 0 < m) (hm : m < W) (hlt : m * 2 ^ k < M * 2 ^ (k + d)) :
  ∃ X r, X + (lowHi m d * W + lowLo m d) + (if lowCut m d = true then 1 else 0) = M * W ∧ (lowCut m d = true ↔ r ≠ 0) ∧ (M * 2 ^ (k + d) - m * 2 ^ k) * W = X * 2 ^ (k + d) + r ∧ r < 2 ^ (k + d) := by
 obtain ⟨rem, h1, h2, h3, h4, h5⟩ := low_spec W hW m d h0 hm
 have hWp : 0 < W := by omega
 have hp : 0 < 2 ^ d := Nat.pow_pos (by decide)
 have hk : 0 < 2 ^ k := Nat.pow_pos (by decide)
 clear hW hm h4 h5
 generalize lowHi m d * W + lowLo m d = Y at *
 rw [Nat.pow_add] at hlt ⊢
 generalize 2 ^ d = P at *
 generalize 2 ^ k = K at *
 have hmm : m < M * P := by
  rw [Nat.mul_comm K, ← Nat.mul_assoc] at hlt
  exact Nat.lt_of_mul_lt_mul_right hlt
 have hMP : M * P * W = M * W * P := by rw [Nat.mul_assoc, Nat.mul_assoc, Nat.mul_comm P]
 have h6 : Y * P + rem < M * W * P := by
  rw [← h1, ← hMP]
  exact Nat.mul_lt_mul_of_pos_right hmm hWp
 have hYM : Y < M * W := Nat.lt_of_mul_lt_mul_right (Nat.lt_of_le_of_lt (Nat.le_add_right _ rem) h6)
 have key : (M * (K * P) - m * K) * W = (M * W * P - (Y * P + rem)) * K := by
  rw [← h1, ← hMP, ← Nat.sub_mul, Nat.mul_comm K P, ← Nat.mul_assoc, ← Nat.sub_mul, Nat.mul_assoc, Nat.mul_assoc, Nat.mul_comm K W]
 rw [key]
 by_cases hc : lowCut m d = true
 ·have hr := h3.1 hc
  rw [if_pos hc]
  obtain ⟨X, hX⟩ := Nat.exists_eq_add_of_lt hYM
  refine ⟨X, (P - rem) * K, by omega, ⟨fun _ hz => ?_, fun _ => hc⟩, ?_, ?_⟩
  ·have := mul_zero' hz hk
   omega
  ·rw [Nat.mul_comm K P, ← Nat.mul_assoc, ← Nat.add_mul]
   congr 1
   rw [hX, Nat.add_mul, Nat.add_mul, Nat.one_mul]
   omega
  ·rw [Nat.mul_comm K]; exact Nat.mul_lt_mul_of_pos_right (by omega) hk
 ·have hr : rem = 0 := by
   rcases Nat.eq_zero_or_pos rem with h | h
   ·exact h
   ·exact absurd (h3.2 (by omega)) hc
  rw [if_neg hc]
  refine ⟨M * W - Y, 0, by omega, ⟨fun h => absurd h hc, fun h => absurd rfl h⟩, ?_, Nat.mul_pos hk hp⟩
  rw [hr, Nat.add_zero, Nat.add_zero, ← Nat.sub_mul, Nat.mul_comm K P, ← Nat.mul_assoc]
theorem up_norm (W : Nat) (hW : W = 18446744073709551616) (s hi lo k u r : Nat) (hk : u ≤ k) (hb : u < 64) (h : s * W = (hi * W + lo) * 2 ^ k + r) (hr : r < 2 ^ k) (hlo : lo < W) (h1 : 9223372036854775808 ≤ hi * 2 ^ u) (h2 : hi * 2 ^ u < W) :
  ∃ r', Norm s (hi * 2 ^ u + lo * 2 ^ u / W) (k - u) r' ∧ (r' ≠ 0 ↔ lo * 2 ^ u % W ≠ 0 ∨ r ≠ 0) := by
 have hWp : 0 < W := by omega
 obtain ⟨j, rfl⟩ : ∃ j, k = j + u := ⟨k - u, by omega⟩
 rw [Nat.add_sub_cancel]
 have e64 := pw hW (Nat.le_of_lt hb)
 have hq := Nat.div_add_mod (lo * 2 ^ u) W
 have hmod : lo * 2 ^ u % W = (lo % 2 ^ (64 - u)) * 2 ^ u := by
  have h3 := Nat.mul_mod_mul_right (2 ^ u) lo (2 ^ (64 - u))
  rw [Nat.mul_comm (2 ^ (64 - u)), ← e64] at h3
  exact h3
 have hrr : lo % 2 ^ (64 - u) < 2 ^ (64 - u) := Nat.mod_lt _ (Nat.pow_pos (by decide))
 have hpj : 0 < 2 ^ j := Nat.pow_pos (by decide)
 have hpu : 0 < 2 ^ u := Nat.pow_pos (by decide)
 have hmW : hi * 2 ^ u + lo * 2 ^ u / W < W ∧ 9223372036854775808 ≤ hi * 2 ^ u + lo * 2 ^ u / W := by
  have hq2 : lo * 2 ^ u / W < 2 ^ u := by
   rw [Nat.div_lt_iff_lt_mul hWp, Nat.mul_comm (2 ^ u)]
   exact Nat.mul_lt_mul_of_pos_right hlo hpu
  refine ⟨?_, Nat.le_trans h1 (Nat.le_add_right _ _)⟩
  have h6 : hi < 2 ^ (64 - u) := by
   rw [e64, Nat.mul_comm (2 ^ u)] at h2
   exact Nat.lt_of_mul_lt_mul_right h2
  have h7 := Nat.mul_le_mul_right (2 ^ u) h6
  rw [Nat.succ_mul, Nat.mul_comm (2 ^ (64 - u)), ← e64] at h7
  omega
 have hl3 : lo * 2 ^ u % W + 2 ^ u ≤ W := by
  have h7 := Nat.mul_le_mul_right (2 ^ u) hrr
  rw [Nat.succ_mul, Nat.mul_comm (2 ^ (64 - u)), ← e64, ← hmod] at h7
  exact h7
 rw [Nat.pow_add] at h hr
 have hmW1 : hi * 2 ^ u + lo * 2 ^ u / W < 18446744073709551616 := by rw [← hW]; exact hmW.1
 have hmW2 := hmW.2
 clear hW hmod hrr e64 h1 h2 hmW hlo hb hk
 generalize lo * 2 ^ u / W = q at *
 generalize lo * 2 ^ u % W = l3 at *
 unfold Norm
 generalize 2 ^ j = J at *
 generalize 2 ^ u = U at *
 have hs : s * W = (hi * U + q) * J * W + (l3 * J + r) := by
  rw [h]
  have e1 : (hi * W + lo) * (J * U) = hi * U * W * J + lo * U * J := by
   rw [Nat.add_mul]
   congr 1
   ·rw [Nat.mul_assoc, Nat.mul_assoc, Nat.mul_assoc]; congr 1; rw [Nat.mul_comm J U, ← Nat.mul_assoc, ← Nat.mul_assoc, Nat.mul_comm W U]
   ·rw [Nat.mul_comm J U, Nat.mul_assoc]
  have e2 : (hi * U + q) * J * W = hi * U * W * J + W * q * J := by
   rw [Nat.add_mul, Nat.add_mul]
   congr 1
   ·rw [Nat.mul_assoc, Nat.mul_assoc (hi * U), Nat.mul_comm J W]
   ·rw [Nat.mul_assoc, Nat.mul_comm J W, ← Nat.mul_assoc, Nat.mul_comm q W]
  rw [e1, e2, ← hq, Nat.add_mul]
  omega
 have hlt : l3 * J + r < J * W := by
  have h7 := Nat.mul_le_mul_right J hl3
  rw [Nat.add_mul, Nat.mul_comm W, Nat.mul_comm U] at h7
  omega
 have hle : (hi * U + q) * J ≤ s := by
  rcases Nat.lt_or_ge s ((hi * U + q) * J) with h' | h'
  ·have := Nat.mul_lt_mul_of_pos_right h' hWp
   omega
  ·exact h'
 obtain ⟨t, ht⟩ := Nat.exists_eq_add_of_le hle
 have htt : t * W = l3 * J + r := by
  rw [ht, Nat.add_mul] at hs
  omega
 refine ⟨t, ⟨ht, ?_, hmW2, hmW1⟩, ?_⟩
 ·rw [← htt] at hlt
  exact Nat.lt_of_mul_lt_mul_right hlt
 ·constructor
  ·intro h'
   by_cases hl : l3 = 0
   ·right
    intro hr0
    rw [hl, hr0, Nat.zero_mul] at htt
    exact h' (mul_zero' htt hWp)
   ·exact .inl hl
  ·intro h' h''
   rw [h'', Nat.zero_mul] at htt
   have hz : l3 * J = 0 ∧ r = 0 := by omega
   rcases h' with h' | h'
   ·exact h' (mul_zero' hz.1 hpj)
   ·exact h' hz.2
end Go.Proofs.Pl
namespace Go.Proofs.Pl
set_option linter.unusedSimpArgs false
set_option linter.unusedVariables false

def sg (n : Bool) : Int := if n = true then -1 else 1
theorem valN_nat (n : Bool) (M : Nat) (e : Int) (j : Nat) (h : e + BB = j) : valN ⟨1, n, (M : Int), e⟩ = sg n * ((M * 2 ^ j : Nat) : Int) := by
 unfold valN sg
 simp only [h, Int.toNat_natCast]
 congr 1
theorem rnd_of (n : Bool) (S m k r : Nat) (hN : Norm S m k r) (up : Bool) (e : Int) (he : (k : Int) - BB = e) : Rnd (sg n * (S : Int)) up (growN n m e (decide (r ≠ 0)) (up != n)) := by
 have hS : 0 < S := by
  obtain ⟨rfl, _, h3, _⟩ := hN
  have : 0 < m * 2 ^ k := Nat.mul_pos (by omega) (Nat.pow_pos (by decide))
  omega
 have hab : (sg n * (S : Int)).natAbs = S := by unfold sg; cases n <;> simp
 have hs : decide (sg n * (S : Int) < 0) = n := by
  unfold sg
  cases n
  ·simp
  ·simp only [if_true]; rw [decide_eq_true_iff]; omega
 right
 refine ⟨m, k, r, ?_, ?_, ?_⟩
 ·intro h; rw [h] at hab; simp at hab; omega
 ·rw [hab]; exact hN
 ·rw [hs, he]
theorem norm_half {S Q K r : Nat} (hK : 0 < K) (hr : r < K) (h1 : 18446744073709551616 ≤ Q) (h2 : Q < 36893488147419103232) (hS : S = Q * K + r) : S = Q / 2 * (K * 2) + (Q % 2 * K + r) ∧ Q % 2 * K + r < K * 2 ∧ (Q % 2 * K + r ≠ 0 ↔ Q % 2 ≠ 0 ∨ r ≠ 0) := by
 have e := Nat.div_add_mod Q 2
 have hp : Q % 2 = 0 ∨ Q % 2 = 1 := by omega
 refine ⟨?_, ?_, ?_⟩
 ·rw [hS]
  have : Q * K = Q / 2 * (K * 2) + Q % 2 * K := by
   have h3 : Q / 2 * (K * 2) = 2 * (Q / 2) * K := by rw [Nat.mul_comm K 2, ← Nat.mul_assoc, Nat.mul_comm (Q / 2) 2]
   rw [h3, ← Nat.add_mul, e]
  omega
 ·rcases hp with hp | hp <;> rw [hp] <;> omega
 ·rcases hp with hp | hp <;> rw [hp] <;> omega
def plusN (n : Bool) (M m : Nat) (ea : Int) (d : Nat) (up : Bool) : Num :=
 if M + lowHi m d < 18446744073709551616 then growN n ((M + lowHi m d : Nat) : Int) ea (lowCut m d || decide (lowLo m d ≠ 0)) (up != n)
 else growN n (((M + lowHi m d) / 2 : Nat) : Int) (ea + 1) ((lowCut m d || decide (lowLo m d ≠ 0)) || decide ((M + lowHi m d) % 2 ≠ 0)) (up != n)
theorem plus_rnd (n : Bool) (M m : Nat) (ea eb : Int) (d k : Nat) (up : Bool) (hM0 : 9223372036854775808 ≤ M) (hM : M < 18446744073709551616) (hm0 : 0 < m) (hm : m < 18446744073709551616) (hk : eb + BB = k) (hd : ea - eb = d) :
  Rnd (valN ⟨1, n, M, ea⟩ + valN ⟨1, n, m, eb⟩) up (plusN n M m ea d up) := by
 have hka : ea + BB = ((k + d : Nat) : Int) := by omega
 rw [valN_nat n M ea (k + d) hka, valN_nat n m eb k hk, ← Int.mul_add]
 obtain ⟨r, h1, h2, h3⟩ := plus_norm 18446744073709551616 rfl M m d k hm0 hm
 obtain ⟨rem, _, _, _, h4, _⟩ := low_spec 18446744073709551616 rfl m d hm0 hm
 have hc : (lowCut m d || decide (lowLo m d ≠ 0)) = decide (r ≠ 0) := by
  rw [Bool.eq_iff_iff, decide_eq_true_iff, ← h1, Bool.or_eq_true, decide_eq_true_iff]
 unfold plusN
 rw [hc]
 have hsum : ((M * 2 ^ (k + d) : Nat) : Int) + ((m * 2 ^ k : Nat) : Int) = ((M * 2 ^ (k + d) + m * 2 ^ k : Nat) : Int) := by rw [Int.natCast_add]
 rw [hsum]
 have hP : 0 < 2 ^ (k + d) := Nat.pow_pos (by decide)
 by_cases hS : M + lowHi m d < 18446744073709551616
 ·rw [if_pos hS]
  exact rnd_of n _ _ (k + d) r ⟨h2, h3, by omega, hS⟩ up ea (by omega)
 ·rw [if_neg hS]
  obtain ⟨g1, g2, g3⟩ := norm_half hP h3 (by omega) (by omega) h2
  have hc2 : (decide (r ≠ 0) || decide ((M + lowHi m d) % 2 ≠ 0)) = decide ((M + lowHi m d) % 2 * 2 ^ (k + d) + r ≠ 0) := by
   rw [Bool.eq_iff_iff, decide_eq_true_iff, g3, Bool.or_eq_true, decide_eq_true_iff, decide_eq_true_iff]
   exact Or.comm
  rw [hc2]
  refine rnd_of n _ _ (k + d + 1) _ ⟨?_, ?_, by omega, by omega⟩ up (ea + 1) (by omega)
  ·rw [Nat.pow_succ]; exact g1
  ·rw [Nat.pow_succ]; exact g2
end Go.Proofs.Pl
namespace Go.Proofs.Pl
set_option linter.unusedSimpArgs false
set_option linter.unusedVariables false

def roundAt (n : Bool) (s : Nat) (e : Int) (up : Bool) : Num :=
 if s = 0 then zero
 else if s.log2 < 63 then growN n ((s * 2 ^ (63 - s.log2) : Nat) : Int) (e - ((63 - s.log2 : Nat) : Int)) false (up != n)
 else growN n ((s / 2 ^ (s.log2 - 63) : Nat) : Int) (e + ((s.log2 - 63 : Nat) : Int)) (decide (s % 2 ^ (s.log2 - 63) ≠ 0)) (up != n)
theorem norm_log {s m k r : Nat} (h : Norm s m k r) : s ≠ 0 ∧ s.log2 = k + 63 ∧ s / 2 ^ k = m ∧ s % 2 ^ k = r := by
 obtain ⟨h1, h2, h3, h4⟩ := h
 have hP : 0 < 2 ^ k := Nat.pow_pos (by decide)
 have e63 : (2 : Nat) ^ 63 = 9223372036854775808 := by decide
 have e64 : (2 : Nat) ^ 64 = 18446744073709551616 := by decide
 have hlo : 2 ^ (k + 63) ≤ s := by
  rw [h1, Nat.pow_add, e63, Nat.mul_comm]
  have := Nat.mul_le_mul_right (2 ^ k) h3
  omega
 have hhi : s < 2 ^ (k + 63 + 1) := by
  rw [Nat.add_assoc, Nat.pow_add, show 63 + 1 = 64 from rfl, e64, Nat.mul_comm, h1]
  have := Nat.mul_le_mul_right (2 ^ k) (show m + 1 ≤ 18446744073709551616 from h4)
  rw [Nat.add_mul, Nat.one_mul] at this
  omega
 have h0 : s ≠ 0 := by
  have : 0 < 2 ^ (k + 63) := Nat.pow_pos (by decide)
  omega
 refine ⟨h0, ?_, ?_, ?_⟩
 ·have a := (Nat.log2_lt h0).2 hhi
  have b : ¬ s.log2 < k + 63 := fun hh => by have := (Nat.log2_lt h0).1 hh; omega
  omega
 ·rw [h1, Nat.mul_comm, Nat.mul_add_div hP, Nat.div_eq_of_lt h2, Nat.add_zero]
 ·rw [h1, Nat.mul_comm, Nat.mul_add_mod, Nat.mod_eq_of_lt h2]
theorem norm_round {s m k r : Nat} (h : Norm s m k r) (n : Bool) (e : Int) (up : Bool) : roundAt n s e up = growN n m (e + k) (decide (r ≠ 0)) (up != n) := by
 obtain ⟨h0, h1, h2, h3⟩ := norm_log h
 unfold roundAt
 rw [if_neg h0, if_neg (by omega), h1, Nat.add_sub_cancel, h2, h3]
theorem log_le {s : Nat} (h : s ≠ 0) : 2 ^ s.log2 ≤ s ∧ s < 2 ^ (s.log2 + 1) := ⟨Nat.log2_self_le h, (Nat.log2_lt h).1 (Nat.lt_succ_self _)⟩
theorem norm_ex (s : Nat) (h : 9223372036854775808 ≤ s) : ∃ m k r, Norm s m k r := by
 have h0 : s ≠ 0 := by omega
 obtain ⟨h1, h2⟩ := log_le h0
 have e63 : (2 : Nat) ^ 63 = 9223372036854775808 := by decide
 have e64 : (2 : Nat) ^ 64 = 18446744073709551616 := by decide
 have hl : 63 ≤ s.log2 := by
  have : ¬ s.log2 < 63 := fun hh => by have := (Nat.log2_lt h0).1 hh; omega
  omega
 obtain ⟨k, hk⟩ : ∃ k, s.log2 = 63 + k := ⟨s.log2 - 63, by omega⟩
 have hP : 0 < 2 ^ k := Nat.pow_pos (by decide)
 rw [hk, Nat.pow_add, e63] at h1
 rw [hk, show 63 + k + 1 = 64 + k from by omega, Nat.pow_add, e64] at h2
 refine ⟨s / 2 ^ k, k, s % 2 ^ k, (by rw [Nat.mul_comm]; exact (Nat.div_add_mod s (2 ^ k)).symm), Nat.mod_lt _ hP, ?_, ?_⟩
 ·exact (Nat.le_div_iff_mul_le hP).2 h1
 ·exact (Nat.div_lt_iff_lt_mul hP).2 h2
theorem Rnd.eq_round {s : Int} {up : Bool} {c : Num} (h : Rnd s up c) : c = roundAt (decide (s < 0)) s.natAbs (-BB) up := by
 rcases h with ⟨rfl, rfl⟩ | ⟨m, k, r, h0, hN, rfl⟩
 ·rfl
 ·rw [norm_round hN, show -BB + (k : Int) = k - BB from by omega]
theorem rnd_round (s : Int) (up : Bool) (h : s = 0 ∨ 9223372036854775808 ≤ s.natAbs) : Rnd s up (roundAt (decide (s < 0)) s.natAbs (-BB) up) := by
 rcases h with rfl | h
 ·exact .inl ⟨rfl, rfl⟩
 ·obtain ⟨m, k, r, hN⟩ := norm_ex _ h
  refine .inr ⟨m, k, r, by intro h0; rw [h0] at h; simp at h, hN, ?_⟩
  rw [norm_round hN, show -BB + (k : Int) = k - BB from by omega]

def AddR (a b : Num) (up : Bool) (c : Num) : Prop :=
 (a.k = 2 ∧ b.k = 2 ∧ a.n ≠ b.n ∧ c = infN (!up)) ∨ (a.k = 2 ∧ (b.k ≠ 2 ∨ a.n = b.n) ∧ c = a) ∨ (a.k ≠ 2 ∧ b.k = 2 ∧ c = b) ∨ (a.k ≠ 2 ∧ b.k ≠ 2 ∧ Rnd (valN a + valN b) up c)
theorem valN_zero : valN ⟨0, false, 0, 0⟩ = 0 := by unfold valN; simp
def addF (a b : Num) (up : Bool) : Num :=
 if a.k = 2 ∧ b.k = 2 ∧ a.n ≠ b.n then infN (!up) else if a.k = 2 then a else if b.k = 2 then b
 else roundAt (decide (valN a + valN b < 0)) (valN a + valN b).natAbs (-BB) up
def addN (x y : Num) (up : Bool) : Num := addF (fairN x) (fairN y) up
theorem AddR.eq {a b c : Num} {up : Bool} (h : AddR a b up c) : c = addF a b up := by
 unfold addF
 rcases h with ⟨h1, h2, h3, rfl⟩ | ⟨h1, h2, rfl⟩ | ⟨h1, h2, rfl⟩ | ⟨h1, h2, h3⟩
 ·rw [if_pos ⟨h1, h2, h3⟩]
 ·rw [if_neg (fun g => by rcases h2 with h | h; exact h g.2.1; exact g.2.2 h), if_pos h1]
 ·rw [if_neg (fun g => h1 g.1), if_neg h1, if_pos h2]
 ·rw [if_neg (fun g => h1 g.1), if_neg h1, if_neg h2]
  exact h3.eq_round
theorem val_mult {x : Num} (h : mayN x = true) (hk : x.k ≠ 2) (w : Wf x) : ∃ q : Int, valN x = q * 340282366920938463463374607431768211456 := by
 obtain ⟨k, n, m, e⟩ := x
 rcases may_cases h with ⟨h1, h2, h3, h4⟩ | ⟨h1, h2, h3, h4⟩ | ⟨h1, _⟩
 ·simp only at h1 h2 h3 h4
  subst h1 h2 h3 h4
  exact ⟨0, by rw [valN_zero]; rfl⟩
 ·simp only at h1 h2 h3 h4
  subst h1
  unfold Wf at w
  simp only at w
  obtain ⟨M, rfl⟩ := Int.eq_ofNat_of_zero_le w.1
  obtain ⟨j, hj⟩ := Int.eq_ofNat_of_zero_le (show 0 ≤ e + BB - 128 by unfold BB; omega)
  rw [valN_nat n M e (j + 128) (by rw [Int.natCast_add]; show e + BB = (j : Int) + 128; omega), Nat.pow_add, show (2 : Nat) ^ 128 = 340282366920938463463374607431768211456 from by decide]
  refine ⟨sg n * (M * 2 ^ j : Nat), ?_⟩
  rw [Int.mul_assoc, ← Nat.mul_assoc, Int.natCast_mul (M * 2 ^ j)]
  rfl
 ·exact absurd h1 hk
theorem addF_rel {a b : Num} (ma : mayN a = true) (mb : mayN b = true) (wa : Wf a) (wb : Wf b) (up : Bool) : AddR a b up (addF a b up) := by
 unfold addF
 by_cases h1 : a.k = 2
 ·by_cases h2 : b.k = 2 ∧ a.n ≠ b.n
  ·rw [if_pos ⟨h1, h2.1, h2.2⟩]; exact .inl ⟨h1, h2.1, h2.2, rfl⟩
  ·rw [if_neg (fun g => h2 g.2), if_pos h1]
   refine .inr (.inl ⟨h1, ?_, rfl⟩)
   by_cases h3 : b.k = 2
   ·right
    by_cases h4 : a.n = b.n
    ·exact h4
    ·exact absurd ⟨h3, h4⟩ h2
   ·exact .inl h3
 ·rw [if_neg (fun g => h1 g.1), if_neg h1]
  by_cases h2 : b.k = 2
  ·rw [if_pos h2]; exact .inr (.inr (.inl ⟨h1, h2, rfl⟩))
  ·rw [if_neg h2]
   refine .inr (.inr (.inr ⟨h1, h2, rnd_round _ _ ?_⟩))
   obtain ⟨p, hp⟩ := val_mult ma h1 wa
   obtain ⟨q, hq⟩ := val_mult mb h2 wb
   rw [hp, hq]
   omega
theorem addN_rel {x y : Num} (wx : Wf x) (wy : Wf y) (up : Bool) : AddR (fairN x) (fairN y) up (addN x y up) := addF_rel (mayN_fair x) (mayN_fair y) (fairN_wf wx) (fairN_wf wy) up
theorem AddR.may {a b c : Num} {up : Bool} (h : AddR a b up c) (ma : mayN a = true) (mb : mayN b = true) (wa : Wf a) (wb : Wf b) : mayN c = true ∧ Wf c := by
 rcases h with ⟨_, _, _, rfl⟩ | ⟨_, _, rfl⟩ | ⟨_, _, rfl⟩ | ⟨_, _, h⟩
 ·exact ⟨may_inf _, wf_inf _⟩
 ·exact ⟨ma, wa⟩
 ·exact ⟨mb, wb⟩
 ·exact h.may
theorem addN_may {x y : Num} (wx : Wf x) (wy : Wf y) (up : Bool) : mayN (addN x y up) = true ∧ Wf (addN x y up) := (addN_rel wx wy up).may (mayN_fair x) (mayN_fair y) (fairN_wf wx) (fairN_wf wy)
theorem inf_of {z : Num} (h : mayN z = true) (k : z.k = 2) : z = infN z.n := by
 rcases may_cases h with ⟨h1, _⟩ | ⟨h1, _⟩ | ⟨h1, h2, h3⟩
 ·omega
 ·omega
 ·exact Num.ext h1 rfl h2 h3
theorem inf_key {z : Num} (h : mayN z = true) (k : z.k = 2) : key z = if z.n = true then -TOP else TOP := (congrArg key (inf_of h k)).trans (key_inf _)
theorem fin_key {z : Num} (h : mayN z = true) (w : Wf z) (k : z.k ≠ 2) : -TOP < key z ∧ key z < TOP := by
 have b := key_bd h w
 have n1 : key z ≠ TOP := fun e => by
  have := (eq_inf h w false).2 (by rw [e, key_inf]; rfl)
  rw [this] at k; exact k rfl
 have n2 : key z ≠ -TOP := fun e => by
  have := (eq_inf h w true).2 (by rw [e, key_inf]; rfl)
  rw [this] at k; exact k rfl
 omega
theorem addN_zero (x : Num) (wx : Wf x) (up : Bool) : addN x zero up = fairN x := by
 have h := addN_rel wx zero_wf up
 rw [fairN_of mayN_zero] at h
 have hz : zero.k = 0 := rfl
 rcases h with ⟨_, h2, _⟩ | ⟨_, _, h⟩ | ⟨_, h2, _⟩ | ⟨h1, _, h⟩
 ·omega
 ·exact h
 ·omega
 ·rw [show valN zero = 0 from valN_zero, Int.add_zero] at h
  exact h.uniq (Rnd.self ⟨mayN_fair x, h1, fairN_wf wx⟩ up)
/-! the opposite -/
theorem negN_all (x : Num) (wx : Wf x) : mayN (negN x) = true ∧ Wf (negN x) ∧ key (negN x) = -(K x) := by
 unfold negN K
 have h := may_cases (mayN_fair x)
 have w := fairN_wf wx
 generalize fairN x = y at h w
 obtain ⟨k, n, m, e⟩ := y
 unfold negF
 unfold Wf at w ⊢
 simp only at h w ⊢
 rcases h with ⟨rfl, rfl, rfl, rfl⟩ | ⟨rfl, h2, h3, h4⟩ | ⟨rfl, rfl, rfl⟩
 ·refine ⟨by decide, by decide, by decide⟩
 ·refine ⟨by unfold mayN; simp; omega, w, ?_⟩
  unfold key mag
  cases n <;> simp
 ·refine ⟨by unfold mayN; simp, by decide, ?_⟩
  unfold key mag
  cases n <;> simp
def subN (x y : Num) (up : Bool) : Num := addN x (negN y) up
theorem neg_zero : negN zero = zero := by decide +kernel
theorem subN_zero (x : Num) (wx : Wf x) (up : Bool) : subN x zero up = fairN x := by unfold subN; rw [neg_zero]; exact addN_zero x wx up
/-! the product -/
def mulF (a b : Num) (up : Bool) : Num :=
 if a.k = 0 ∨ b.k = 0 then zero else if a.k = 2 ∨ b.k = 2 then infN (a.n != b.n) else roundAt (a.n != b.n) (a.m * b.m).toNat (a.e + b.e) up
def mulN (x y : Num) (up : Bool) : Num := mulF (fairN x) (fairN y) up
theorem grow_may (n away cut : Bool) (m e : Int) (h1 : 9223372036854775808 ≤ m) (h2 : m < 18446744073709551616) : mayN (growN n m e cut away) = true ∧ Wf (growN n m e cut away) := by
 unfold growN boundN
 refine ⟨?_, ?_⟩
 ·(repeat' split) <;> unfold mayN <;> simp <;> omega
 ·(repeat' split) <;> unfold Wf <;> simp <;> omega
theorem round_may (n : Bool) (s : Nat) (e : Int) (up : Bool) : mayN (roundAt n s e up) = true ∧ Wf (roundAt n s e up) := by
 by_cases h0 : s = 0
 ·subst h0
  exact ⟨mayN_zero, zero_wf⟩
 ·by_cases h : s.log2 < 63
  ·obtain ⟨h1, h2⟩ := log_le h0
   have e63 : (2 : Nat) ^ 63 = 9223372036854775808 := by decide
   have e64 : (2 : Nat) ^ 64 = 18446744073709551616 := by decide
   have a1 : 9223372036854775808 ≤ s * 2 ^ (63 - s.log2) := by
    have := Nat.mul_le_mul_right (2 ^ (63 - s.log2)) h1
    rw [← Nat.pow_add, show s.log2 + (63 - s.log2) = 63 from by omega, e63] at this
    exact this
   have a2 : s * 2 ^ (63 - s.log2) < 18446744073709551616 := by
    have := Nat.mul_lt_mul_of_pos_right h2 (Nat.pow_pos (n := 63 - s.log2) (show 0 < 2 by decide))
    rw [← Nat.pow_add, show s.log2 + 1 + (63 - s.log2) = 64 from by omega, e64] at this
    exact this
   unfold roundAt
   rw [if_neg h0, if_pos h]
   exact grow_may _ _ _ _ _ (by omega) (by omega)
  ·have e63 : (2 : Nat) ^ 63 = 9223372036854775808 := by decide
   have hs : 9223372036854775808 ≤ s := by
    have := Nat.pow_le_pow_right (show 0 < 2 by decide) (show 63 ≤ s.log2 by omega)
    have := (log_le h0).1
    omega
   obtain ⟨m, k, r, hN⟩ := norm_ex s hs
   rw [norm_round hN]
   exact grow_may _ _ _ _ _ (by have := hN.2.2.1; omega) (by have := hN.2.2.2; omega)
theorem mulN_may (x y : Num) (up : Bool) : mayN (mulN x y up) = true ∧ Wf (mulN x y up) := by
 unfold mulN mulF
 split
 ·exact ⟨mayN_zero, zero_wf⟩
 ·split
  ·exact ⟨may_inf _, wf_inf _⟩
  ·exact round_may _ _ _ _
def halfC : Num := ⟨1, false, 9223372036854775808, -64⟩
def halfN (x : Num) (up : Bool) : Num := mulN x halfC up
/-! intervals -/
def midI (x : Iv) : Num :=
 if (fairI x).emp = true ∨ ((fairI x).lo.k = 2 ∧ (fairI x).hi.k = 2) then zero else if (fairI x).lo.k = 2 then (fairI x).hi else if (fairI x).hi.k = 2 then (fairI x).lo
 else mostN [(fairI x).lo, leastN [halfN (addN (fairI x).lo (fairI x).hi false) false, (fairI x).hi]]
def widthI (x : Iv) : Num := subN (fairI x).hi (fairI x).lo true
def splitA (x : Iv) : Iv := if (fairI x).emp = true then fairI x else makeI (fairI x).lo (midI (fairI x))
def splitB (x : Iv) : Iv := if (fairI x).emp = true then fairI x else makeI (midI (fairI x)) (fairI x).hi
theorem most2 {a b : Num} (wa : Wf a) (wb : Wf b) : mayN (mostN [a, b]) = true ∧ Wf (mostN [a, b]) ∧ K a ≤ key (mostN [a, b]) ∧ K b ≤ key (mostN [a, b]) ∧ ∀ B, -TOP ≤ B → K a ≤ B → K b ≤ B → key (mostN [a, b]) ≤ B := by
 obtain ⟨h1, h2, h3, h4, h5⟩ := most_fold [a, b] (infN true) (may_inf true) (wf_inf true) (by intro x hx; simp at hx; rcases hx with rfl | rfl; exact wa; exact wb)
 refine ⟨h1, h2, h4 a (by simp), h4 b (by simp), fun B h k1 k2 => h5 B (by rw [key_inf]; exact h) ?_⟩
 intro x hx; simp at hx; rcases hx with rfl | rfl; exact k1; exact k2
theorem least2 {a b : Num} (wa : Wf a) (wb : Wf b) : mayN (leastN [a, b]) = true ∧ Wf (leastN [a, b]) ∧ key (leastN [a, b]) ≤ K a ∧ key (leastN [a, b]) ≤ K b ∧ ∀ B, B ≤ TOP → B ≤ K a → B ≤ K b → B ≤ key (leastN [a, b]) := by
 obtain ⟨h1, h2, h3, h4, h5⟩ := least_fold [a, b] (infN false) (may_inf false) (wf_inf false) (by intro x hx; simp at hx; rcases hx with rfl | rfl; exact wa; exact wb)
 refine ⟨h1, h2, h4 a (by simp), h4 b (by simp), fun B h k1 k2 => h5 B (by rw [key_inf]; exact h) ?_⟩
 intro x hx; simp at hx; rcases hx with rfl | rfl; exact k1; exact k2
theorem mid_spec {x : Iv} (wx : WfIv x) (f : Full x) : mayN (midI x) = true ∧ Wf (midI x) ∧ key x.lo ≤ key (midI x) ∧ key (midI x) ≤ key x.hi ∧ -TOP < key (midI x) ∧ key (midI x) < TOP := by
 obtain ⟨h0, h1, h2, h3, h4, h5⟩ := (full_iff wx).1 f
 have T0 : 0 < TOP := by unfold TOP; decide
 have bl := key_bd h1 wx.1
 have bh := key_bd h2 wx.2
 unfold midI
 rw [fairI_of f, h0]
 by_cases k1 : x.lo.k = 2
 ·have e1 : key x.lo = -TOP := by have := inf_key h1 k1; split at this <;> omega
  by_cases k2 : x.hi.k = 2
  ·rw [if_pos (.inr ⟨k1, k2⟩), key_zero]
   have e2 : key x.hi = TOP := by have := inf_key h2 k2; split at this <;> omega
   exact ⟨mayN_zero, zero_wf, by omega, by omega, by omega, by omega⟩
  ·rw [if_neg (by simp [k2]), if_pos k1]
   have := fin_key h2 wx.2 k2
   exact ⟨h2, wx.2, h3, Int.le_refl _, by omega, by omega⟩
 ·have f1 := fin_key h1 wx.1 k1
  rw [if_neg (by simp [k1]), if_neg k1]
  by_cases k2 : x.hi.k = 2
  ·rw [if_pos k2]
   exact ⟨h1, wx.1, Int.le_refl _, h3, by omega, by omega⟩
  ·rw [if_neg k2]
   have f2 := fin_key h2 wx.2 k2
   have hm := mulN_may (addN x.lo x.hi false) halfC false
   change mayN (halfN _ _) = true ∧ Wf (halfN _ _) at hm
   generalize halfN (addN x.lo x.hi false) false = m at hm ⊢
   obtain ⟨l1, l2, l3, l4, l5⟩ := least2 hm.2 wx.2
   obtain ⟨g1, g2, g3, g4, g5⟩ := most2 wx.1 l2
   rw [K_of l1] at g4 g5
   rw [K_of h1] at g3 g5
   rw [K_of h2] at l4
   have := g5 (key x.hi) (by omega) h3 l4
   exact ⟨g1, g2, g3, this, by omega, by omega⟩
theorem split_spec {x : Iv} (wx : WfIv x) (f : Full x) : splitA x = ⟨false, x.lo, midI x⟩ ∧ splitB x = ⟨false, midI x, x.hi⟩ ∧ Full ⟨false, x.lo, midI x⟩ ∧ Full ⟨false, midI x, x.hi⟩ := by
 obtain ⟨m1, m2, m3, m4, m5, m6⟩ := mid_spec wx f
 obtain ⟨h0, h1, h2, h3, h4, h5⟩ := (full_iff wx).1 f
 unfold splitA splitB
 rw [fairI_of f, h0]
 simp only [Bool.false_eq_true, if_false]
 obtain ⟨a1, a2⟩ := make_full h1 m1 wx.1 m2 ⟨m3, h4, m5⟩
 obtain ⟨b1, b2⟩ := make_full m1 h2 m2 wx.2 ⟨m4, m6, h5⟩
 exact ⟨a1, b1, a2, b2⟩
end Go.Proofs.Pl
namespace Go.Proofs.Pl
set_option linter.unusedVariables false
set_option linter.unusedSimpArgs false

def twoI (x y : Iv) : Iv := if ((fairI x).emp || (fairI y).emp) = true then noneI else makeI (mostN [(fairI x).lo, (fairI y).lo]) (leastN [(fairI x).hi, (fairI y).hi])
theorem two_eq (x y : Iv) : twoI x y = meetI [x, y] := by
 unfold twoI meetI endsAll fulls
 cases hx : (fairI x).emp <;> cases hy : (fairI y).emp <;> simp [hx, hy]
end Go.Proofs.Pl
namespace Go.Proofs.Pl
set_option linter.unusedSimpArgs false
set_option linter.unusedVariables false

def noneB (x : Iv) : Bool := x.emp || !mayI x
def emptyB (b : List Iv) : Bool := b.any noneB
def meet2 (x y : Iv) : Iv := meetI [x, y]
theorem meet2_wf {x y : Iv} (wx : WfIv x) (wy : WfIv y) : WfIv (meet2 x y) := meet_wf _ (wf2 wx wy)
/-! halves -/
theorem split_none {x : Iv} (f : ¬ Full x) : splitA x = noneI ∧ splitB x = noneI := by
 have e : fairI x = noneI := by
  rcases fairI_cases x with ⟨h, _⟩ | ⟨_, e⟩
  ·exact absurd h f
  ·exact e
 unfold splitA splitB
 rw [e]
 exact ⟨rfl, rfl⟩
theorem split_wf {x : Iv} (wx : WfIv x) : WfIv (splitA x) ∧ WfIv (splitB x) := by
 by_cases f : Full x
 ·obtain ⟨h1, h2, _, _⟩ := split_spec wx f
  have m := (mid_spec wx f).2.1
  rw [h1, h2]
  exact ⟨⟨wx.1, m⟩, ⟨m, wx.2⟩⟩
 ·obtain ⟨h1, h2⟩ := split_none f
  rw [h1, h2]
  exact ⟨noneI_wf, noneI_wf⟩
/-! within -/
end Go.Proofs.Pl
namespace Go.Proofs.Pl

structure Pr where
 a : Iv
 b : Iv
structure Cl where
 p : Pr
 kd : Int
def WfP (p : Pr) : Prop := WfIv p.a ∧ WfIv p.b
def splitsI (x : Iv) : Bool := decide (cmpN x.lo (midI x) < 0) && decide (cmpN (midI x) x.hi < 0)
def splP (fine : Num) (p : Pr) : Option (Pr × Pr) :=
 if (decide (cmpN (mostN [widthI p.a, widthI p.b]) fine ≤ 0) || (!splitsI p.a && !splitsI p.b)) = true then none
 else if ((decide (0 < cmpN (widthI p.b) (widthI p.a)) && splitsI p.b) || !splitsI p.a) = true then some (⟨p.a, splitB p.b⟩, ⟨p.a, splitA p.b⟩)
 else some (⟨splitB p.a, p.b⟩, ⟨splitA p.a, p.b⟩)
def lookS (out : Pr → Bool) (spl : Pr → Option (Pr × Pr)) (s : List Pr × List Cl) : List Pr × List Cl :=
 match s.1.getLast? with
 | none => s
 | some p => if out p = true then (s.1.dropLast, s.2) else match spl p with
  | some (h, l) => (s.1.dropLast ++ [h, l], s.2)
  | none => (s.1.dropLast, s.2 ++ [⟨p, 0⟩])
def lookN (out : Pr → Bool) (spl : Pr → Option (Pr × Pr)) (s : List Pr × List Cl) : Nat → List Pr × List Cl
 | 0 => s
 | n + 1 => lookS out spl (lookN out spl s n)
def restC (s : List Pr × List Cl) : List Cl := s.2 ++ s.1.reverse.map fun p => ⟨p, 1⟩
section
variable {out : Pr → Bool} {spl : Pr → Option (Pr × Pr)}
theorem lookS_nil (cs : List Cl) : lookS out spl ([], cs) = ([], cs) := rfl
theorem lookS_snoc (ps : List Pr) (p : Pr) (cs : List Cl) : lookS out spl (ps ++ [p], cs) = if out p = true then (ps, cs) else match spl p with
  | some (h, l) => (ps ++ [h, l], cs)
  | none => (ps, cs ++ [⟨p, 0⟩]) := by
 unfold lookS
 rw [List.getLast?_append]
 simp only [List.getLast?_singleton, Option.some_or, List.dropLast_concat]
theorem lookN_inv (P : Pr → Prop) (hs : ∀ p h l, P p → spl p = some (h, l) → P h ∧ P l) (all : Pr) (h0 : P all) (n : Nat) :
  (∀ p ∈ (lookN out spl ([all], []) n).1, P p) ∧ (∀ c ∈ (lookN out spl ([all], []) n).2, P c.p ∧ c.kd = 0 ∧ out c.p = false) ∧ (lookN out spl ([all], []) n).1.length ≤ n + 1 ∧ (lookN out spl ([all], []) n).2.length ≤ n := by
 induction n with
 | zero => exact ⟨fun p hp => by rw [List.mem_singleton.1 hp]; exact h0, fun c hc => (by cases hc), Nat.le_refl _, Nat.le_refl _⟩
 | succ n ih =>
  show (∀ p ∈ (lookS out spl (lookN out spl ([all], []) n)).1, P p) ∧ (∀ c ∈ (lookS out spl (lookN out spl ([all], []) n)).2, P c.p ∧ c.kd = 0 ∧ out c.p = false) ∧ (lookS out spl (lookN out spl ([all], []) n)).1.length ≤ n + 1 + 1 ∧ (lookS out spl (lookN out spl ([all], []) n)).2.length ≤ n + 1
  obtain ⟨h1, h2, h3, h4⟩ := ih
  generalize lookN out spl ([all], []) n = s at h1 h2 h3 h4
  obtain ⟨ps, cs⟩ := s
  dsimp only at h1 h2 h3 h4
  rcases List.eq_nil_or_concat ps with rfl | ⟨qs, p, rfl⟩
  ·rw [lookS_nil]
   exact ⟨h1, h2, by simp, by dsimp only; omega⟩
  rw [List.concat_eq_append] at *
  ·rw [lookS_snoc]
   rw [List.length_append, List.length_singleton] at h3
   have hp := h1 p (by simp)
   have hq : ∀ q ∈ qs, P q := fun q hq => h1 q (List.mem_append_left _ hq)
   by_cases ho : out p = true
   ·rw [if_pos ho]
    exact ⟨hq, h2, by dsimp only; omega, by dsimp only; omega⟩
   ·rw [if_neg ho]
    cases hx : spl p with
    | none =>
     refine ⟨hq, fun c hc => ?_, by dsimp only; omega, by simp; omega⟩
     rcases List.mem_append.1 hc with hc | hc
     ·exact h2 c hc
     ·rw [List.mem_singleton.1 hc]; exact ⟨hp, rfl, by simpa using ho⟩
    | some x =>
     obtain ⟨h, l⟩ := x
     obtain ⟨k1, k2⟩ := hs p h l hp hx
     refine ⟨fun q hq' => ?_, h2, by simp; omega, by dsimp only; omega⟩
     rcases List.mem_append.1 hq' with hq' | hq'
     ·exact hq q hq'
     ·simp only [List.mem_cons, List.not_mem_nil, or_false] at hq'
      rcases hq' with rfl | rfl
      ·exact k1
      ·exact k2
end
theorem splP_inv {fine : Num} {p h l : Pr} (hs : splP fine p = some (h, l)) (P : Iv → Prop) (hP : ∀ x, P x → P (splitA x) ∧ P (splitB x)) (h0 : P p.a ∧ P p.b) : (P h.a ∧ P h.b) ∧ (P l.a ∧ P l.b) := by
 unfold splP at hs
 split at hs
 ·cases hs
 ·split at hs
  ·cases hs
   exact ⟨⟨h0.1, (hP _ h0.2).2⟩, h0.1, (hP _ h0.2).1⟩
  ·cases hs
   exact ⟨⟨(hP _ h0.1).2, h0.2⟩, (hP _ h0.1).1, h0.2⟩
theorem splP_wf {fine : Num} {p h l : Pr} (hp : WfP p) (hs : splP fine p = some (h, l)) : WfP h ∧ WfP l := splP_inv hs WfIv (fun _ => split_wf) hp
end Go.Proofs.Pl
namespace Go.Proofs.Pl
set_option linter.unusedSimpArgs false
set_option linter.unusedVariables false

theorem lowCut_hi {m d : Nat} (h : lowCut m d = true) : lowHi m d = 0 := by
 unfold lowCut at h
 unfold lowHi
 split at h
 ·cases h
 ·rw [if_neg (by assumption)]
theorem split_words (M hi lo less X : Nat) (hlo : lo < 18446744073709551616) (hl : less ≤ 1) (hM : M < 18446744073709551616) (hX : X + (hi * 18446744073709551616 + lo) + less = M * 18446744073709551616) :
  ∃ b, b = (if 0 < lo + less then 1 else 0) ∧ b ≤ 1 ∧ hi + b ≤ M ∧ X = (M - hi - b) * 18446744073709551616 + (18446744073709551616 - lo - less) % 18446744073709551616 ∧ (M + 18446744073709551616 - hi - b) % 18446744073709551616 = M - hi - b := by
 by_cases h : 0 < lo + less
 ·refine ⟨1, by rw [if_pos h], Nat.le_refl _, by omega, ?_, by omega⟩
  by_cases ht : lo + less = 18446744073709551616
  ·rw [show 18446744073709551616 - lo - less = 0 from by omega]; omega
  ·rw [Nat.mod_eq_of_lt (by omega)]; omega
 ·refine ⟨0, by rw [if_neg h], by omega, by omega, ?_, by omega⟩
  rw [show lo = 0 from by omega, show less = 0 from by omega] at hX ⊢
  simp only [Nat.sub_zero, Nat.mod_self]
  omega
theorem minus_parts (M m d k : Nat) (hM0 : 9223372036854775808 ≤ M) (hM : M < 18446744073709551616) (hm0 : 9223372036854775808 ≤ m) (hm : m < 18446744073709551616) (hk : 128 ≤ k) (hlt : m * 2 ^ k < M * 2 ^ (k + d)) :
  ∃ b H L r, b = (if 0 < lowLo m d + (if lowCut m d = true then 1 else 0) then 1 else 0) ∧ b ≤ 1 ∧ lowHi m d + b ≤ M ∧ L = (18446744073709551616 - lowLo m d - (if lowCut m d = true then 1 else 0)) % 18446744073709551616 ∧ L < 18446744073709551616 ∧ H = (M + 18446744073709551616 - lowHi m d - b) % 18446744073709551616 ∧ H < 18446744073709551616 ∧ (H = 0 → L ≠ 0 ∧ lowCut m d = false) ∧
   (lowCut m d = true ↔ r ≠ 0) ∧ (M * 2 ^ (k + d) - m * 2 ^ k) * 18446744073709551616 = (H * 18446744073709551616 + L) * 2 ^ (k + d) + r ∧ r < 2 ^ (k + d) := by
 obtain ⟨X, r, h1, h2, h3, h4⟩ := minus_words 18446744073709551616 rfl M m d k (by omega) hm hlt
 obtain ⟨rem, _, _, _, _, h5⟩ := low_spec 18446744073709551616 rfl m d (by omega) hm
 have hl1 : (if lowCut m d = true then 1 else 0) ≤ 1 := by split <;> omega
 obtain ⟨b, hb, hb1, hb2, hX, hH⟩ := split_words M (lowHi m d) (lowLo m d) (if lowCut m d = true then 1 else 0) X h5 hl1 hM h1
 refine ⟨b, M - lowHi m d - b, _, r, hb, hb1, hb2, rfl, Nat.mod_lt _ (by decide), hH.symm, by omega, ?_, h2, by rw [h3, hX], h4⟩
 intro hz
 have hcf : lowCut m d = false := by
  cases hc : lowCut m d
  ·rfl
  ·have := lowCut_hi hc
   omega
 refine ⟨?_, hcf⟩
 intro hL
 have hr : r = 0 := by
  rcases Nat.eq_zero_or_pos r with h | h
  ·exact h
  ·have := h2.2 (by omega)
   rw [hcf] at this
   cases this
 rw [hz, hL, Nat.zero_mul, Nat.zero_add] at hX
 rw [hX, hr, Nat.zero_mul, Nat.zero_add] at h3
 have h6 : 0 < M * 2 ^ (k + d) - m * 2 ^ k := by omega
 have := Nat.mul_pos h6 (show 0 < 18446744073709551616 by decide)
 omega
end Go.Proofs.Pl
namespace Go.Proofs.Pl

def met (l : List Bool) (k : Nat) : Prop := l.getD k false = true
instance (l : List Bool) (k : Nat) : Decidable (met l k) := inferInstanceAs (Decidable (_ = _))
def cntF (l : List Bool) : Nat := l.countP (fun b => !b)
theorem met_set {l : List Bool} {i : Nat} (hi : i < l.length) (k : Nat) : met (l.set i true) k ↔ k = i ∨ met l k := by
 unfold met
 rw [List.getD_eq_getElem?_getD, List.getD_eq_getElem?_getD, List.getElem?_set]
 by_cases h : i = k
 ·subst h; rw [if_pos rfl, if_pos hi]; simp
 ·rw [if_neg h]
  constructor
  ·exact fun hk => .inr hk
  ·rintro (e | hk)
   ·exact absurd e.symm h
   ·exact hk
theorem met_lt {l : List Bool} {k : Nat} (h : met l k) : k < l.length := by
 rcases Nat.lt_or_ge k l.length with h1 | h1
 ·exact h1
 ·unfold met at h
  rw [List.getD_eq_getElem?_getD, List.getElem?_eq_none h1] at h
  cases h
theorem cntF_set : ∀ (l : List Bool) (i : Nat), i < l.length → ¬ met l i → cntF (l.set i true) + 1 = cntF l
 | [], i, h, _ => absurd h (Nat.not_lt_zero i)
 | b :: l, 0, _, hm => by
  unfold met at hm
  simp at hm
  subst hm
  simp [cntF]
 | b :: l, i + 1, h, hm => by
  have ih := cntF_set l i (by simpa using h) (by unfold met at hm ⊢; simpa using hm)
  rw [List.set_cons_succ]
  unfold cntF at ih ⊢
  rw [List.countP_cons, List.countP_cons]
  omega
section
variable (t : Nat → Nat → Bool) (n : Nat)
def dfs : Nat → Nat → List Bool × List Nat → List Bool × List Nat
 | 0, _, s => s
 | f + 1, i, s => (List.range n).foldl (fun s k => if (!s.1.getD k false && t i k) = true then dfs f k s else s) (s.1.set i true, s.2 ++ [i])
def dfsK (f i : Nat) (s : List Bool × List Nat) (m : Nat) : List Bool × List Nat := (List.range m).foldl (fun s k => if (!s.1.getD k false && t i k) = true then dfs t n f k s else s) (s.1.set i true, s.2 ++ [i])
theorem dfs_succ (f i : Nat) (s : List Bool × List Nat) : dfs t n (f + 1) i s = dfsK t n f i s n := rfl
theorem dfsK_zero (f i : Nat) (s : List Bool × List Nat) : dfsK t n f i s 0 = (s.1.set i true, s.2 ++ [i]) := rfl
theorem dfsK_succ (f i : Nat) (s : List Bool × List Nat) (m : Nat) : dfsK t n f i s (m + 1) = if (!(dfsK t n f i s m).1.getD m false && t i m) = true then dfs t n f m (dfsK t n f i s m) else dfsK t n f i s m := by
 unfold dfsK
 rw [List.range_succ, List.foldl_append]
 rfl
inductive Reach : Nat → Nat → Prop
 | refl (a : Nat) : Reach a a
 | head {a b c : Nat} (hb : b < n) (h : t a b = true) (k : Reach b c) : Reach a c
structure Post (s r : List Bool × List Nat) (i : Nat) : Prop where
 len : r.1.length = n
 mono : ∀ k, met s.1 k → met r.1 k
 here : met r.1 i
 closed : ∀ k, met r.1 k → ¬ met s.1 k → ∀ j, j < n → t k j = true → met r.1 j
 sum : r.2.length + cntF r.1 = s.2.length + cntF s.1
 new : ∃ l : List Nat, r.2 = s.2 ++ l ∧ l.Nodup ∧ (∀ k, k ∈ l ↔ met r.1 k ∧ ¬ met s.1 k) ∧ ∀ k ∈ l, Reach t n i k
structure InvK (s0 r : List Bool × List Nat) (i m : Nat) : Prop where
 len : r.1.length = n
 mono : ∀ k, met s0.1 k → met r.1 k
 closed : ∀ k, met r.1 k → ¬ met s0.1 k → ∀ j, j < n → t k j = true → met r.1 j
 sum : r.2.length + cntF r.1 = s0.2.length + cntF s0.1
 new : ∃ l : List Nat, r.2 = s0.2 ++ l ∧ l.Nodup ∧ (∀ k, k ∈ l ↔ met r.1 k ∧ ¬ met s0.1 k) ∧ ∀ k ∈ l, Reach t n i k
 upto : ∀ j, j < m → t i j = true → met r.1 j
theorem not_met {l : List Bool} {k : Nat} (h : ¬ met l k) : l.getD k false = false := by unfold met at h; simpa using h
theorem dfs_both (f : Nat) : ∀ (i : Nat) (s : List Bool × List Nat), s.1.length = n → i < n → ¬ met s.1 i → cntF s.1 ≤ f →
  Post t n s (dfs t n f i s) i := by
 induction f with
 | zero => intro i s hl hi hm hc; have := cntF_set s.1 i (by omega) hm; omega
 | succ f ih =>
  intro i s hl hi hm hc
  have c0 := cntF_set s.1 i (by omega) hm
  have key : ∀ m, m ≤ n → InvK t n (s.1.set i true, s.2 ++ [i]) (dfsK t n f i s m) i m := by
   intro m
   induction m with
   | zero =>
    intro _
    rw [dfsK_zero]
    exact ⟨by simpa using hl, fun _ h => h, fun k h h' => absurd h h', rfl, ⟨[], by simp, List.nodup_nil, by simp, by simp⟩, fun j h => absurd h (Nat.not_lt_zero j)⟩
   | succ m ihm =>
    intro hmn
    have I := ihm (by omega)
    rw [dfsK_succ]
    generalize dfsK t n f i s m = r at I
    by_cases hg : (!r.1.getD m false && t i m) = true
    ·rw [if_pos hg]
     simp only [Bool.and_eq_true, Bool.not_eq_true'] at hg
     obtain ⟨g1, g2⟩ := hg
     have nm : ¬ met r.1 m := by unfold met; rw [g1]; simp
     have hcr : cntF r.1 ≤ f := by
      have := I.sum
      obtain ⟨l, hl, _⟩ := I.new
      rw [hl, List.length_append] at this
      dsimp only at this
      omega
     have P := ih m r I.len (by omega) nm hcr
     obtain ⟨l, hl1, hl2, hl3, hl4⟩ := I.new
     obtain ⟨p, hp1, hp2, hp3, hp4⟩ := P.new
     refine ⟨P.len, fun k h => P.mono k (I.mono k h), fun k h h0 j hj hkj => ?_, P.sum.trans I.sum, ⟨l ++ p, by rw [hp1, hl1, List.append_assoc], ?_, fun k => ?_, fun k hk => ?_⟩, fun j hj htj => ?_⟩
     ·by_cases hk : met r.1 k
      ·exact P.mono _ (I.closed k hk h0 j hj hkj)
      ·exact P.closed k h hk j hj hkj
     ·rw [List.nodup_append]
      exact ⟨hl2, hp2, fun a ha b hb e => by subst e; exact ((hp3 a).1 hb).2 ((hl3 a).1 ha).1⟩
     ·rw [List.mem_append, hl3, hp3]
      constructor
      ·rintro (⟨h1, h2⟩ | ⟨h1, h2⟩)
       ·exact ⟨P.mono _ h1, h2⟩
       ·exact ⟨h1, fun h => h2 (I.mono _ h)⟩
      ·rintro ⟨h1, h2⟩
       by_cases hk : met r.1 k
       ·exact .inl ⟨hk, h2⟩
       ·exact .inr ⟨h1, hk⟩
     ·rcases List.mem_append.1 hk with hk | hk
      ·exact hl4 k hk
      ·exact .head (by omega) g2 (hp4 k hk)
     ·rcases Nat.lt_succ_iff_lt_or_eq.1 hj with h | rfl
      ·exact P.mono _ (I.upto j h htj)
      ·exact P.here
    ·rw [if_neg hg]
     refine ⟨I.len, I.mono, I.closed, I.sum, I.new, fun j hj htj => ?_⟩
     rcases Nat.lt_succ_iff_lt_or_eq.1 hj with h | rfl
     ·exact I.upto j h htj
     ·rw [htj] at hg
      unfold met
      simpa using hg
  have I := key n (Nat.le_refl n)
  rw [dfs_succ]
  generalize dfsK t n f i s n = r at I
  obtain ⟨l, hl1, hl2, hl3, hl4⟩ := I.new
  have ms : ∀ k, met (s.1.set i true) k ↔ k = i ∨ met s.1 k := met_set (by omega)
  refine ⟨I.len, fun k h => I.mono k ((ms k).2 (.inr h)), I.mono i ((ms i).2 (.inl rfl)), fun k h h0 j hj hkj => ?_, ?_, ⟨i :: l, by rw [hl1]; simp, ?_, fun k => ?_, fun k hk => ?_⟩⟩
  ·by_cases hk : k = i
   ·subst hk; exact I.upto j hj hkj
   ·exact I.closed k h (fun e => by rcases (ms k).1 e with e | e; exact hk e; exact h0 e) j hj hkj
  ·have := I.sum
   dsimp only at this
   rw [List.length_append, List.length_singleton] at this
   omega
  ·rw [List.nodup_cons]
   exact ⟨fun h => ((hl3 i).1 h).2 ((ms i).2 (.inl rfl)), hl2⟩
  ·rw [List.mem_cons, hl3]
   constructor
   ·rintro (rfl | ⟨h1, h2⟩)
    ·exact ⟨I.mono _ ((ms k).2 (.inl rfl)), hm⟩
    ·exact ⟨h1, fun h => h2 ((ms k).2 (.inr h))⟩
   ·rintro ⟨h1, h2⟩
    by_cases hk : k = i
    ·exact .inl hk
    ·exact .inr ⟨h1, fun e => by rcases (ms k).1 e with e | e; exact hk e; exact h2 e⟩
  ·rcases List.mem_cons.1 hk with rfl | hk
   ·exact .refl _
   ·exact hl4 k hk
theorem dfsK_inv (f i : Nat) (s : List Bool × List Nat) (hl : s.1.length = n) (hi : i < n) (hm : ¬ met s.1 i) (hc : cntF s.1 ≤ f + 1) (m : Nat) (hmn : m ≤ n) :
  (dfsK t n f i s m).1.length = n ∧ cntF (dfsK t n f i s m).1 ≤ f ∧ (dfsK t n f i s m).2.length + cntF (dfsK t n f i s m).1 = s.2.length + cntF s.1 := by
 have c0 := cntF_set s.1 i (by omega) hm
 induction m with
 | zero => rw [dfsK_zero]; dsimp only; rw [List.length_append, List.length_set]; exact ⟨hl, by omega, by simp only [List.length_singleton]; omega⟩
 | succ m ih =>
  obtain ⟨h1, h2, h3⟩ := ih (by omega)
  rw [dfsK_succ]
  generalize dfsK t n f i s m = r at h1 h2 h3
  by_cases hg : (!r.1.getD m false && t i m) = true
  ·rw [if_pos hg]
   simp only [Bool.and_eq_true, Bool.not_eq_true'] at hg
   have P := dfs_both t n f m r h1 (by omega) (by unfold met; rw [hg.1]; simp) h2
   have := P.sum
   obtain ⟨l, hl', _⟩ := P.new
   have h4 := congrArg List.length hl'
   rw [List.length_append] at h4
   exact ⟨P.len, by omega, by omega⟩
  ·rw [if_neg hg]; exact ⟨h1, h2, h3⟩
def srt (l : List Nat) : List Nat := ((l.map Int.ofNat).mergeSort fun x y => decide (x ≤ y)).map Int.toNat
theorem srt_perm (l : List Nat) : (srt l).Perm l := by
 have h := ((l.map Int.ofNat).mergeSort_perm (fun x y => decide (x ≤ y))).map Int.toNat
 rw [List.map_map] at h
 have e : (Int.toNat ∘ Int.ofNat : Nat → Nat) = id := by funext x; rfl
 rw [e, List.map_id] at h
 exact h
theorem srt_ints (l : List Nat) : (srt l).map Int.ofNat = (l.map Int.ofNat).mergeSort fun x y => decide (x ≤ y) := by
 unfold srt
 rw [List.map_map]
 have h := (l.map Int.ofNat).mergeSort_perm (fun x y => decide (x ≤ y))
 have : ∀ x ∈ (l.map Int.ofNat).mergeSort (fun x y => decide (x ≤ y)), (Int.ofNat ∘ Int.toNat) x = x := fun x hx => by
  obtain ⟨y, _, rfl⟩ := List.mem_map.1 (h.mem_iff.1 hx)
  rfl
 rw [List.map_congr_left this]
 exact List.map_id _
theorem srt_sorted {l : List Nat} (hl : l.Nodup) : (srt l).Pairwise (· < ·) := by
 have h1 : ((srt l).map Int.ofNat).Pairwise fun x y : Int => decide (x ≤ y) = true := by
  rw [srt_ints]
  exact List.pairwise_mergeSort (fun a b c h k => by simp only [decide_eq_true_eq] at h k ⊢; omega) (fun a b => by simp only [Bool.or_eq_true, decide_eq_true_eq]; omega) _
 rw [List.pairwise_map] at h1
 have h2 : (srt l).Nodup := (srt_perm l).nodup_iff.2 hl
 refine (h1.and h2).imp fun {a b} h => ?_
 obtain ⟨h, k⟩ := h
 simp only [decide_eq_true_eq] at h
 have : (a : Int) ≤ b := h
 omega
def grS (s : List Bool × List (List Nat)) (i : Nat) : List Bool × List (List Nat) :=
 if s.1.getD i false = true then s else ((dfs t n n i (s.1, [])).1, s.2 ++ [srt (dfs t n n i (s.1, [])).2])
def grN (i : Nat) : List Bool × List (List Nat) := (List.range i).foldl (grS t n) (List.replicate n false, [])
theorem grN_zero : grN t n 0 = (List.replicate n false, []) := rfl
theorem grN_succ (i : Nat) : grN t n (i + 1) = grS t n (grN t n i) i := by
 unfold grN
 rw [List.range_succ, List.foldl_append]
 rfl
def groupsP : List (List Nat) := (grN t n n).2
structure InvG (s : List Bool × List (List Nat)) (i : Nat) : Prop where
 len : s.1.length = n
 many : s.2.length ≤ i
 upto : ∀ j, j < i → met s.1 j
 cover : ∀ k, met s.1 k ↔ ∃ g ∈ s.2, k ∈ g
 nodup : s.2.flatten.Nodup
 sorted : ∀ g ∈ s.2, g.Pairwise (· < ·)
 closed : ∀ (a : Nat) (g : List Nat), s.2[a]? = some g → ∀ k ∈ g, ∀ j, j < n → t k j = true → ∃ (b : Nat) (g' : List Nat), b ≤ a ∧ s.2[b]? = some g' ∧ j ∈ g' -- ', b ≤ a ∧ s.2[b]? = some g' ∧ j ∈ g'
 lead : ∀ g ∈ s.2, ∃ i0 : Nat, i0 ∈ g ∧ i0 < i ∧ ∀ k ∈ g, i0 ≤ k ∧ Reach t n i0 k
 order : ∀ (a b : Nat) (g h : List Nat), a < b → s.2[a]? = some g → s.2[b]? = some h → ∀ x ∈ h, ∃ y : Nat, y ∈ g ∧ y < x
theorem cntF_le (l : List Bool) : cntF l ≤ l.length := List.countP_le_length
theorem grN_inv (i : Nat) (hi : i ≤ n) : InvG t n (grN t n i) i := by
 induction i with
 | zero =>
  rw [grN_zero]
  refine ⟨by simp, Nat.le_refl _, fun j h => absurd h (Nat.not_lt_zero j), fun k => ⟨fun h => ?_, fun ⟨g, hg, _⟩ => (by cases hg)⟩, List.nodup_nil, fun g hg => (by cases hg), fun a g h => (by cases h), fun g hg => (by cases hg), fun a b g h _ hg => (by cases hg)⟩
  exfalso
  unfold met at h
  dsimp only at h
  rw [List.getD_eq_getElem?_getD, List.getElem?_replicate] at h
  split at h <;> cases h
 | succ i ih =>
  have I := ih (by omega)
  rw [grN_succ]
  generalize grN t n i = s at I
  obtain ⟨mt, gs⟩ := s
  unfold grS
  dsimp only
  by_cases hm : met mt i
  ·rw [if_pos (show mt.getD i false = true from hm)]
   refine ⟨I.len, Nat.le_succ_of_le I.many, fun j hj => ?_, I.cover, I.nodup, I.sorted, I.closed, fun g hg => ?_, I.order⟩
   ·rcases Nat.lt_succ_iff_lt_or_eq.1 hj with h | rfl
    ·exact I.upto j h
    ·exact hm
   ·obtain ⟨i0, h1, h2, h3⟩ := I.lead g hg
    exact ⟨i0, h1, by omega, h3⟩
  ·rw [if_neg (show ¬ mt.getD i false = true from hm)]
   have P := dfs_both t n n i (mt, []) I.len (by omega) hm (by have := cntF_le mt; have := I.len; dsimp only at this ⊢; omega)
   generalize dfs t n n i (mt, []) = r at P
   obtain ⟨l, hl1, hl2, hl3, hl4⟩ := P.new
   obtain ⟨mr, lr⟩ := r
   dsimp only at hl1 hl3 ⊢
   rw [List.nil_append] at hl1
   subst hl1
   have mem : ∀ k, k ∈ srt lr ↔ met mr k ∧ ¬ met mt k := fun k => (srt_perm lr).mem_iff.trans (hl3 k)
   have hii : i ∈ srt lr := (mem i).2 ⟨P.here, hm⟩
   refine ⟨P.len, by rw [List.length_append, List.length_singleton]; exact Nat.succ_le_succ I.many, fun j hj => ?_, fun k => ?_, ?_, fun g hg => ?_, fun a g ha k hk j hj hkj => ?_, fun g hg => ?_, fun a b g h hab ha hb x hx => ?_⟩
   ·rcases Nat.lt_succ_iff_lt_or_eq.1 hj with h | rfl
    ·exact P.mono _ (I.upto j h)
    ·exact P.here
   ·constructor
    ·intro h
     by_cases hk : met mt k
     ·obtain ⟨g, hg, hkg⟩ := (I.cover k).1 hk
      exact ⟨g, List.mem_append_left _ hg, hkg⟩
     ·exact ⟨srt lr, List.mem_append_right _ (List.mem_singleton.2 rfl), (mem k).2 ⟨h, hk⟩⟩
    ·rintro ⟨g, hg, hkg⟩
     rcases List.mem_append.1 hg with hg | hg
     ·exact P.mono _ ((I.cover k).2 ⟨g, hg, hkg⟩)
     ·rw [List.mem_singleton.1 hg] at hkg; exact ((mem k).1 hkg).1
   ·rw [List.flatten_append, List.flatten_singleton, List.nodup_append]
    refine ⟨I.nodup, (srt_perm lr).nodup_iff.2 hl2, fun a ha b hb e => ?_⟩
    subst e
    obtain ⟨g, hg, hag⟩ := List.mem_flatten.1 ha
    exact ((mem a).1 hb).2 ((I.cover a).2 ⟨g, hg, hag⟩)
   ·rcases List.mem_append.1 hg with hg | hg
    ·exact I.sorted g hg
    ·rw [List.mem_singleton.1 hg]; exact srt_sorted hl2
   ·rcases Nat.lt_or_ge a gs.length with hlt | hge
    ·rw [List.getElem?_append_left hlt] at ha
     obtain ⟨b, g', hb, hg', hjg⟩ := I.closed a g ha k hk j hj hkj
     exact ⟨b, g', hb, by rw [List.getElem?_append_left (by omega)]; exact hg', hjg⟩
    ·rw [List.getElem?_append_right hge] at ha
     have ea : a - gs.length = 0 := by
      have := (List.getElem?_eq_some_iff.1 ha).1
      simp at this; omega
     rw [ea] at ha
     simp only [List.getElem?_cons_zero, Option.some.injEq] at ha
     subst ha
     obtain ⟨k1, k2⟩ := (mem k).1 hk
     have hj2 := P.closed k k1 k2 j hj hkj
     by_cases hjm : met mt j
     ·obtain ⟨g', hg', hjg⟩ := (I.cover j).1 hjm
      obtain ⟨b, hb⟩ := List.mem_iff_getElem?.1 hg'
      have hbl : b < gs.length := (List.getElem?_eq_some_iff.1 hb).1
      exact ⟨b, g', by omega, by rw [List.getElem?_append_left hbl]; exact hb, hjg⟩
     ·exact ⟨a, srt lr, Nat.le_refl _, by rw [List.getElem?_append_right hge, ea]; rfl, (mem j).2 ⟨hj2, hjm⟩⟩
   ·rcases List.mem_append.1 hg with hg | hg
    ·obtain ⟨i0, h1, h2, h3⟩ := I.lead g hg
     exact ⟨i0, h1, by omega, h3⟩
    ·rw [List.mem_singleton.1 hg]
     refine ⟨i, hii, by omega, fun k hk => ⟨?_, hl4 k ((srt_perm lr).mem_iff.1 hk)⟩⟩
     rcases Nat.lt_or_ge k i with h | h
     ·exact absurd (I.upto k h) ((mem k).1 hk).2
     ·exact h
   ·rcases Nat.lt_or_ge b gs.length with hlt | hge
    ·rw [List.getElem?_append_left hlt] at hb
     rw [List.getElem?_append_left (by omega)] at ha
     exact I.order a b g h hab ha hb x hx
    ·have eb : b = gs.length := by
      have := (List.getElem?_eq_some_iff.1 hb).1
      rw [List.length_append, List.length_singleton] at this
      omega
     rw [List.getElem?_append_left (by omega)] at ha
     rw [List.getElem?_append_right hge, eb, Nat.sub_self] at hb
     simp only [List.getElem?_cons_zero, Option.some.injEq] at hb
     subst hb
     obtain ⟨i0, h1, h2, _⟩ := I.lead g (List.mem_of_getElem? ha)
     refine ⟨i0, h1, ?_⟩
     rcases Nat.lt_or_ge x i with h | h
     ·exact absurd (I.upto x h) ((mem x).1 hx).2
     ·omega
end
end Go.Proofs.Pl
namespace Go.Proofs.Pl

theorem flat_uniq {gs : List (List Nat)} (h : gs.flatten.Nodup) {a b x : Nat} {g g' : List Nat} (ha : gs[a]? = some g) (hb : gs[b]? = some g') (hx : x ∈ g) (hx' : x ∈ g') : a = b := by
 have hp := (List.pairwise_flatten.1 h).2
 rw [List.pairwise_iff_getElem] at hp
 obtain ⟨la, ea⟩ := List.getElem?_eq_some_iff.1 ha
 obtain ⟨lb, eb⟩ := List.getElem?_eq_some_iff.1 hb
 rcases Nat.lt_trichotomy a b with hlt | he | hgt
 ·exact absurd rfl (hp a b la lb hlt x (by rw [ea]; exact hx) x (by rw [eb]; exact hx'))
 ·exact he
 ·exact absurd rfl (hp b a lb la hgt x (by rw [eb]; exact hx') x (by rw [ea]; exact hx))
section
variable {t : Nat → Nat → Bool} {n : Nat}
theorem groups_inv : InvG t n (grN t n n) n := grN_inv t n n (Nat.le_refl n)
theorem groups_lt {j : Nat} {g : List Nat} (hg : g ∈ groupsP t n) (hj : j ∈ g) : j < n := by
 have I := groups_inv (t := t) (n := n)
 have := met_lt ((I.cover j).2 ⟨g, hg, hj⟩)
 rw [I.len] at this
 exact this
theorem groups_all {j : Nat} (hj : j < n) : ∃ (a : Nat) (g : List Nat), (groupsP t n)[a]? = some g ∧ j ∈ g := by
 have I := groups_inv (t := t) (n := n)
 obtain ⟨g, hg, hjg⟩ := (I.cover j).1 (I.upto j hj)
 obtain ⟨a, ha⟩ := List.mem_iff_getElem?.1 hg
 exact ⟨a, g, ha, hjg⟩
theorem parts_many : (groupsP t n).flatten.length = n := by
 have I := groups_inv (t := t) (n := n)
 have hp : (groupsP t n).flatten.Perm (List.range n) := by
  rw [List.perm_ext_iff_of_nodup (show (groupsP t n).flatten.Nodup from I.nodup) List.nodup_range]
  intro j
  rw [List.mem_flatten, List.mem_range]
  constructor
  ·rintro ⟨g, hg, hj⟩; exact groups_lt hg hj
  ·intro hj
   obtain ⟨a, g, ha, hjg⟩ := groups_all (t := t) hj
   exact ⟨g, List.mem_of_getElem? ha, hjg⟩
 rw [hp.length_eq, List.length_range]
end
end Go.Proofs.Pl
namespace Go.Proofs.Pl

section
variable (t : Nat → Nat → Bool) (n : Nat)
def rfK (i : Nat) (o : List Nat) (k : Nat) : List Nat := if (t i k && decide (o.getD k 0 < o.getD i 0)) = true then o.set i (o.getD k 0) else o
def rfRow (i : Nat) (o : List Nat) (m : Nat) : List Nat := (List.range m).foldl (rfK t i) o
def rfRound (o : List Nat) (m : Nat) : List Nat := (List.range m).foldl (fun o i => rfRow t i o n) o
def rfN (r : Nat) : List Nat := (List.range r).foldl (fun o _ => rfRound t n o n) (List.range n)
def rfOne (o : List Nat) (f m : Nat) : List Nat := (List.range m).filter (fun i => o.getD i 0 == f)
def rfOut (o : List Nat) (m : Nat) : List (List Nat) := (List.range m).foldl (fun r f => if 0 < (rfOne o f n).length then r ++ [rfOne o f n] else r) []
theorem rfRow_succ (i : Nat) (o : List Nat) (m : Nat) : rfRow t i o (m + 1) = rfK t i (rfRow t i o m) m := by unfold rfRow; rw [List.range_succ, List.foldl_append]; rfl
theorem rfRound_succ (o : List Nat) (m : Nat) : rfRound t n o (m + 1) = rfRow t m (rfRound t n o m) n := by unfold rfRound; rw [List.range_succ, List.foldl_append]; rfl
theorem rfN_succ (r : Nat) : rfN t n (r + 1) = rfRound t n (rfN t n r) n := by unfold rfN; rw [List.range_succ, List.foldl_append]; rfl
theorem rfOut_succ (o : List Nat) (m : Nat) : rfOut n o (m + 1) = if 0 < (rfOne o m n).length then rfOut n o m ++ [rfOne o m n] else rfOut n o m := by unfold rfOut; rw [List.range_succ, List.foldl_append]; rfl
theorem rfOne_succ (o : List Nat) (f m : Nat) : rfOne o f (m + 1) = if (o.getD m 0 == f) = true then rfOne o f m ++ [m] else rfOne o f m := by
 unfold rfOne
 rw [List.range_succ, List.filter_append]
 by_cases h : (o.getD m 0 == f) = true
 ·rw [if_pos h, show List.filter (fun i => o.getD i 0 == f) [m] = [m] by simp only [List.filter, h]]
 ·rw [if_neg h, show List.filter (fun i => o.getD i 0 == f) [m] = [] by simp only [List.filter, h], List.append_nil]
def refGr : List (List Nat) := rfOut n (rfN t n n) n
structure InvR (o : List Nat) : Prop where
 len : o.length = n
 mem : ∀ g ∈ groupsP t n, ∀ k ∈ g, o.getD k 0 ∈ g
 le : ∀ k, k < n → o.getD k 0 ≤ k
def FinR (o : List Nat) (k : Nat) : Prop := ∀ g ∈ groupsP t n, k ∈ g → ∀ x ∈ g, o.getD k 0 ≤ x
end
section
variable {t : Nat → Nat → Bool} {n : Nat}
theorem same_group (hsym : ∀ i k, i < n → k < n → t i k = t k i) {i k : Nat} (hi : i < n) (hk : k < n) (ht : t i k = true) {g : List Nat} (hg : g ∈ groupsP t n) (hig : i ∈ g) : k ∈ g := by
 have I := groups_inv (t := t) (n := n)
 obtain ⟨a, ha⟩ := List.mem_iff_getElem?.1 hg
 obtain ⟨b, g1, h1, h2, h3⟩ := I.closed a g ha i hig k hk ht
 obtain ⟨c, g2, h4, h5, h6⟩ := I.closed b g1 h2 k h3 i hi (by rw [← hsym i k hi hk]; exact ht)
 have e := flat_uniq I.nodup h5 ha h6 hig
 have e2 : a = b := by omega
 subst e2
 cases Option.some.inj (h2.symm.trans ha)
 exact h3
theorem getD_set {o : List Nat} {i x v : Nat} (hi : i < o.length) : (o.set i v).getD x 0 = if x = i then v else o.getD x 0 := by
 rw [List.getD_eq_getElem?_getD, List.getElem?_set]
 by_cases h : x = i
 ·subst h; rw [if_pos rfl, if_pos hi, if_pos rfl]; rfl
 ·rw [if_neg (fun e => h e.symm), if_neg h, ← List.getD_eq_getElem?_getD]
theorem rfK_step (hsym : ∀ i k, i < n → k < n → t i k = t k i) {o : List Nat} (I : InvR t n o) {i k : Nat} (hi : i < n) (hk : k < n) :
  InvR t n (rfK t i o k) ∧ (∀ x, FinR t n o x → FinR t n (rfK t i o k) x) ∧ (t i k = true → FinR t n o k → FinR t n (rfK t i o k) i) := by
 unfold rfK
 have hil : i < o.length := by rw [I.len]; exact hi
 by_cases h : (t i k && decide (o.getD k 0 < o.getD i 0)) = true
 ·rw [if_pos h]
  simp only [Bool.and_eq_true, decide_eq_true_eq] at h
  obtain ⟨ht, hlt⟩ := h
  refine ⟨⟨by rw [List.length_set]; exact I.len, fun g hg x hx => ?_, fun x hx => ?_⟩, fun x hf g hg hx y hy => ?_, fun _ hf g hg hx y hy => ?_⟩
  ·rw [getD_set hil]
   split
   ·rename_i e
    subst e
    exact I.mem g hg k (same_group hsym hi hk ht hg hx)
   ·exact I.mem g hg x hx
  ·rw [getD_set hil]
   split
   ·rename_i e
    subst e
    exact Nat.le_trans (Nat.le_of_lt hlt) (I.le x hx)
   ·exact I.le x hx
  ·rw [getD_set hil]
   split
   ·rename_i e
    subst e
    exact Nat.le_trans (Nat.le_of_lt hlt) (hf g hg hx y hy)
   ·exact hf g hg hx y hy
  ·rw [getD_set hil, if_pos rfl]
   exact hf g hg (same_group hsym hi hk ht hg hx) y hy
 ·rw [if_neg h]
  refine ⟨I, fun x hf => hf, fun ht hf g hg hx y hy => ?_⟩
  have h2 : ¬ o.getD k 0 < o.getD i 0 := fun e => h (by rw [ht]; simpa using e)
  have := hf g hg (same_group hsym hi hk ht hg hx) y hy
  omega
theorem rfRow_inv (hsym : ∀ i k, i < n → k < n → t i k = t k i) {o : List Nat} (I : InvR t n o) {i : Nat} (hi : i < n) (m : Nat) (hm : m ≤ n) :
  InvR t n (rfRow t i o m) ∧ (∀ x, FinR t n o x → FinR t n (rfRow t i o m) x) ∧ (∀ k, k < m → t i k = true → FinR t n o k → FinR t n (rfRow t i o m) i) := by
 induction m with
 | zero => exact ⟨I, fun x h => h, fun k h => absurd h (Nat.not_lt_zero k)⟩
 | succ m ih =>
  obtain ⟨h1, h2, h3⟩ := ih (by omega)
  rw [rfRow_succ]
  obtain ⟨k1, k2, k3⟩ := rfK_step hsym h1 hi (show m < n by omega)
  refine ⟨k1, fun x h => k2 x (h2 x h), fun k hk ht hf => ?_⟩
  rcases Nat.lt_succ_iff_lt_or_eq.1 hk with h | rfl
  ·exact k2 i (h3 k h ht hf)
  ·exact k3 ht (h2 k hf)
theorem rfRound_inv (hsym : ∀ i k, i < n → k < n → t i k = t k i) {o : List Nat} (I : InvR t n o) (m : Nat) (hm : m ≤ n) :
  InvR t n (rfRound t n o m) ∧ (∀ x, FinR t n o x → FinR t n (rfRound t n o m) x) ∧ (∀ i, i < m → ∀ k, k < n → t i k = true → FinR t n o k → FinR t n (rfRound t n o m) i) := by
 induction m with
 | zero => exact ⟨I, fun x h => h, fun i h => absurd h (Nat.not_lt_zero i)⟩
 | succ m ih =>
  obtain ⟨h1, h2, h3⟩ := ih (by omega)
  rw [rfRound_succ]
  obtain ⟨k1, k2, k3⟩ := rfRow_inv hsym h1 (show m < n by omega) n (Nat.le_refl n)
  refine ⟨k1, fun x h => k2 x (h2 x h), fun i hi k hk ht hf => ?_⟩
  rcases Nat.lt_succ_iff_lt_or_eq.1 hi with h | rfl
  ·exact k2 i (h3 i h k hk ht hf)
  ·exact k3 k hk ht (h2 k hf)
theorem reach_edge {o : List Nat} {a c : Nat} (h : Reach t n a c) (ha : a < n) (hf : FinR t n o a) (hn : ¬ FinR t n o c) : ∃ a' b', a' < n ∧ b' < n ∧ t a' b' = true ∧ FinR t n o a' ∧ ¬ FinR t n o b' := by
 induction h with
 | refl a => exact absurd hf hn
 | @head a b c hb ht _ ih =>
  by_cases hfb : FinR t n o b
  ·exact ih hb hfb hn
  ·exact ⟨a, b, ha, hb, ht, hf, hfb⟩
theorem rf_more (hsym : ∀ i k, i < n → k < n → t i k = t k i) {o : List Nat} (I : InvR t n o) {x : Nat} (hx : x < n) (hn : ¬ FinR t n o x) : ∃ i, i < n ∧ ¬ FinR t n o i ∧ FinR t n (rfRound t n o n) i := by
 have J := groups_inv (t := t) (n := n)
 obtain ⟨a, g, ha, hxg⟩ := groups_all (t := t) hx
 have hg := List.mem_of_getElem? ha
 obtain ⟨i0, h1, h2, h3⟩ := J.lead g hg
 have hf0 : FinR t n o i0 := fun g' hg' hi y hy => by
  obtain ⟨b, hb⟩ := List.mem_iff_getElem?.1 hg'
  have e := flat_uniq J.nodup hb ha hi h1
  subst e
  rw [hb] at ha
  cases ha
  exact Nat.le_trans (I.le i0 h2) (h3 y hy).1
 obtain ⟨a', b', l1, l2, ht, hf, hnf⟩ := reach_edge (h3 x hxg).2 h2 hf0 hn
 exact ⟨b', l2, hnf, (rfRound_inv hsym I n (Nat.le_refl n)).2.2 b' l2 a' l1 (by rw [hsym b' a' l2 l1]; exact ht) hf⟩
theorem nodup_all {l : List Nat} (hl : l.Nodup) (hs : ∀ x ∈ l, x < n) (hn : n ≤ l.length) : ∀ x, x < n → x ∈ l := by
 intro x hx
 have hp : (l ++ (List.range n).filter (fun x => decide (x ∉ l))).Perm (List.range n) := by
  refine (List.perm_ext_iff_of_nodup (List.nodup_append.2 ⟨hl, List.nodup_range.filter _, fun a ha b hb e => ?_⟩) List.nodup_range).2 fun a => ?_
  ·subst e
   have := (List.mem_filter.1 hb).2
   simp at this
   exact this ha
  ·rw [List.mem_append, List.mem_filter, List.mem_range]
   constructor
   ·rintro (h | h)
    ·exact hs a h
    ·exact h.1
   ·intro h
    by_cases hm : a ∈ l
    ·exact .inl hm
    ·exact .inr ⟨h, by simpa using hm⟩
 have h1 := hp.length_eq
 rw [List.length_append, List.length_range] at h1
 have h2 : (List.range n).filter (fun x => decide (x ∉ l)) = [] := List.eq_nil_of_length_eq_zero (by omega)
 by_cases hm : x ∈ l
 ·exact hm
 ·have : x ∈ (List.range n).filter (fun x => decide (x ∉ l)) := List.mem_filter.2 ⟨List.mem_range.2 hx, by simpa using hm⟩
  rw [h2] at this
  cases this
theorem range_getD {k : Nat} (hk : k < n) : (List.range n).getD k 0 = k := by
 rw [List.getD_eq_getElem?_getD, List.getElem?_range hk]; rfl
theorem rf_start : InvR t n (List.range n) := ⟨List.length_range, fun g hg k hk => by rw [range_getD (groups_lt hg hk)]; exact hk, fun k hk => by rw [range_getD hk]; exact Nat.le_refl k⟩
theorem rfN_inv (hsym : ∀ i k, i < n → k < n → t i k = t k i) (r : Nat) : InvR t n (rfN t n r) ∧ ∃ l : List Nat, l.Nodup ∧ (∀ x ∈ l, x < n ∧ FinR t n (rfN t n r) x) ∧ (r ≤ l.length ∨ ∀ x, x < n → FinR t n (rfN t n r) x) := by
 induction r with
 | zero => exact ⟨rf_start, [], List.nodup_nil, fun x h => (by cases h), .inl (Nat.le_refl 0)⟩
 | succ r ih =>
  obtain ⟨I, l, h1, h2, h3⟩ := ih
  rw [rfN_succ]
  obtain ⟨J, js, _⟩ := rfRound_inv hsym I n (Nat.le_refl n)
  refine ⟨J, ?_⟩
  by_cases hall : ∀ x, x < n → FinR t n (rfN t n r) x
  ·exact ⟨l, h1, fun x hx => ⟨(h2 x hx).1, js x (h2 x hx).2⟩, .inr fun x hx => js x (hall x hx)⟩
  ·obtain ⟨x, hx⟩ := Classical.not_forall.1 hall
   obtain ⟨hx1, hx2⟩ := Classical.not_imp.1 hx
   obtain ⟨i, i1, i2, i3⟩ := rf_more hsym I hx1 hx2
   have hr : r ≤ l.length := by
    rcases h3 with h | h
    ·exact h
    ·exact absurd h hall
   refine ⟨i :: l, List.nodup_cons.2 ⟨fun hm => i2 (h2 i hm).2, h1⟩, fun y hy => ?_, .inl (by rw [List.length_cons]; omega)⟩
   rcases List.mem_cons.1 hy with rfl | hy
   ·exact ⟨i1, i3⟩
   ·exact ⟨(h2 y hy).1, js y (h2 y hy).2⟩
theorem rf_fin (hsym : ∀ i k, i < n → k < n → t i k = t k i) : ∀ x, x < n → FinR t n (rfN t n n) x := by
 obtain ⟨I, l, h1, h2, h3⟩ := rfN_inv hsym n
 rcases h3 with h | h
 ·exact fun x hx => (h2 x (nodup_all h1 (fun y hy => (h2 y hy).1) h x hx)).2
 ·exact h
theorem asc_ext : ∀ {l m : List Nat}, l.Pairwise (· < ·) → m.Pairwise (· < ·) → (∀ x, x ∈ l ↔ x ∈ m) → l = m
 | [], [], _, _, _ => rfl
 | [], b :: m, _, _, h => by have := (h b).2 (List.mem_cons_self ..); cases this
 | a :: l, [], _, _, h => by have := (h a).1 (List.mem_cons_self ..); cases this
 | a :: l, b :: m, hl, hm, h => by
  rw [List.pairwise_cons] at hl hm
  have e : a = b := by
   rcases List.mem_cons.1 ((h a).1 (List.mem_cons_self ..)) with e | h1
   ·exact e
   ·rcases List.mem_cons.1 ((h b).2 (List.mem_cons_self ..)) with e | h2
    ·exact e.symm
    ·have := hm.1 a h1; have := hl.1 b h2; omega
  subst e
  rw [asc_ext hl.2 hm.2 fun x => ?_]
  constructor
  ·intro hx
   rcases List.mem_cons.1 ((h x).1 (List.mem_cons_of_mem _ hx)) with e | h1
   ·have := hl.1 x hx; omega
   ·exact h1
  ·intro hx
   rcases List.mem_cons.1 ((h x).2 (List.mem_cons_of_mem _ hx)) with e | h1
   ·have := hm.1 x hx; omega
   ·exact h1
theorem mem_rfOne {o : List Nat} {f x : Nat} : x ∈ rfOne o f n ↔ x < n ∧ o.getD x 0 = f := by
 unfold rfOne
 rw [List.mem_filter, List.mem_range, beq_iff_eq]
theorem rfOne_lead (hsym : ∀ i k, i < n → k < n → t i k = t k i) {a f : Nat} {g : List Nat} (ha : (groupsP t n)[a]? = some g) (hf : f ∈ g) (hl : ∀ x ∈ g, f ≤ x) : rfOne (rfN t n n) f n = g := by
 have J := groups_inv (t := t) (n := n)
 have I := (rfN_inv hsym n).1
 have hg := List.mem_of_getElem? ha
 refine asc_ext (List.pairwise_lt_range.filter _) (J.sorted g hg) fun x => ?_
 rw [mem_rfOne]
 constructor
 ·rintro ⟨hx, e⟩
  obtain ⟨b, g', hb, hxg⟩ := groups_all (t := t) hx
  have hm := I.mem g' (List.mem_of_getElem? hb) x hxg
  rw [e] at hm
  have e2 := flat_uniq J.nodup hb ha hm hf
  subst e2
  rw [hb] at ha
  cases ha
  exact hxg
 ·intro hx
  have hxn := groups_lt hg hx
  refine ⟨hxn, ?_⟩
  have h1 := rf_fin hsym x hxn g hg hx f hf
  have h2 := hl _ (I.mem g hg x hx)
  omega
theorem rfOut_take (hsym : ∀ i k, i < n → k < n → t i k = t k i) (m : Nat) (hm : m ≤ n) :
  ∃ c, rfOut n (rfN t n n) m = (groupsP t n).take c ∧ c ≤ (groupsP t n).length ∧ ∀ (a : Nat) (g : List Nat), (groupsP t n)[a]? = some g → (a < c ↔ ∃ x ∈ g, x < m) := by
 have J := groups_inv (t := t) (n := n)
 have I := (rfN_inv hsym n).1
 induction m with
 | zero => exact ⟨0, rfl, Nat.zero_le _, fun a g _ => ⟨fun h => absurd h (Nat.not_lt_zero a), fun ⟨x, _, h⟩ => absurd h (Nat.not_lt_zero x)⟩⟩
 | succ m ih =>
  obtain ⟨c, h1, h2, h3⟩ := ih (by omega)
  rw [rfOut_succ, h1]
  obtain ⟨a, g, ha, hmg⟩ := groups_all (t := t) (show m < n by omega)
  by_cases hl : ∀ x ∈ g, m ≤ x
  ·rw [rfOne_lead hsym ha hmg hl, if_pos (List.length_pos_of_mem hmg)]
   have hac : ¬ a < c := fun h => by
    obtain ⟨x, hx, hxm⟩ := (h3 a g ha).1 h
    have := hl x hx
    omega
   have hca : ¬ c < a := fun h => by
    obtain ⟨g', hg'⟩ : ∃ g', (groupsP t n)[c]? = some g' := ⟨_, List.getElem?_eq_getElem (by have := (List.getElem?_eq_some_iff.1 ha).1; omega)⟩
    obtain ⟨y, hy, hym⟩ := J.order c a g' g h hg' ha m hmg
    exact Nat.lt_irrefl c ((h3 c g' hg').2 ⟨y, hy, hym⟩)
   have e : a = c := by omega
   subst e
   refine ⟨a + 1, by rw [List.take_add_one, ha]; rfl, (List.getElem?_eq_some_iff.1 ha).1, fun b g' hb => ?_⟩
   constructor
   ·intro h
    rcases Nat.lt_succ_iff_lt_or_eq.1 h with h | rfl
    ·obtain ⟨x, hx, hxm⟩ := (h3 b g' hb).1 h
     exact ⟨x, hx, by omega⟩
    ·rw [hb] at ha
     cases ha
     exact ⟨m, hmg, Nat.lt_succ_self m⟩
   ·rintro ⟨x, hx, hxm⟩
    rcases Nat.lt_succ_iff_lt_or_eq.1 hxm with h | rfl
    ·have := (h3 b g' hb).2 ⟨x, hx, h⟩
     omega
    ·have := flat_uniq J.nodup hb ha hx hmg
     omega
  ·have hnil : rfOne (rfN t n n) m n = [] := by
    rw [List.eq_nil_iff_forall_not_mem]
    intro x hx
    obtain ⟨hxn, e⟩ := mem_rfOne.1 hx
    obtain ⟨b, g', hb, hxg⟩ := groups_all (t := t) hxn
    have hm' := I.mem g' (List.mem_of_getElem? hb) x hxg
    rw [e] at hm'
    have e2 := flat_uniq J.nodup hb ha hm' hmg
    subst e2
    rw [hb] at ha
    cases ha
    exact hl fun y hy => by
     have := rf_fin hsym x hxn g (List.mem_of_getElem? hb) hxg y hy
     omega
   rw [hnil, if_neg (by simp)]
   refine ⟨c, rfl, h2, fun b g' hb => ?_⟩
   rw [h3 b g' hb]
   constructor
   ·rintro ⟨x, hx, hxm⟩
    exact ⟨x, hx, by omega⟩
   ·rintro ⟨x, hx, hxm⟩
    rcases Nat.lt_succ_iff_lt_or_eq.1 hxm with h | rfl
    ·exact ⟨x, hx, h⟩
    ·have e2 := flat_uniq J.nodup hb ha hx hmg
     subst e2
     rw [hb] at ha
     cases ha
     obtain ⟨y, hy⟩ := Classical.not_forall.1 hl
     obtain ⟨hy1, hy2⟩ := Classical.not_imp.1 hy
     exact ⟨y, hy1, by omega⟩
theorem ref_groups (hsym : ∀ i k, i < n → k < n → t i k = t k i) : refGr t n = groupsP t n := by
 have J := groups_inv (t := t) (n := n)
 obtain ⟨c, h1, h2, h3⟩ := rfOut_take hsym n (Nat.le_refl n)
 unfold refGr
 rw [h1]
 refine List.take_of_length_le ?_
 rcases Nat.lt_or_ge c (groupsP t n).length with h | h
 ·exfalso
  obtain ⟨i0, k1, k2, _⟩ := J.lead _ (List.getElem_mem h)
  exact Nat.lt_irrefl c ((h3 c _ (List.getElem?_eq_getElem h)).2 ⟨i0, k1, k2⟩)
 ·exact h
end
end Go.Proofs.Pl
