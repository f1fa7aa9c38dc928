/- Plain arithmetic of ways around nought: quarters, sides, crossings; nothing of Go. -/
namespace Go.Proofs.Deg

abbrev S := Int × Int

def quarter (p : S) : Int := if 0 < p.1 ∧ 0 ≤ p.2 then 0 else if p.1 ≤ 0 ∧ 0 < p.2 then 1 else if p.1 < 0 then 2 else 3
def side (a b : S) : Int := if a.1 * b.2 < a.2 * b.1 then -1 else if a.2 * b.1 < a.1 * b.2 then 1 else 0
def turn (a b : S) : Int := (quarter b - quarter a + 4) % 4
def badT (a b : S) (s : Int) : Bool := decide (a = (0, 0) ∨ b = (0, 0) ∨ (turn a b = 2 ∧ s = 0))
def qsT (a b : S) (s : Int) : Int := if turn a b = 2 then 2 * s else if turn a b = 3 then -1 else turn a b
def comesT (a b : S) (s : Int) : Bool := decide (s = 0 ∧ a.1 * b.1 ≤ 0 ∧ a.2 * b.2 ≤ 0)
def crossT (a b : S) (s : Int) : Int :=
  if a.2 ≤ 0 ∧ 0 < b.2 ∧ s = 1 then 1 else if 0 < a.2 ∧ b.2 ≤ 0 ∧ s = -1 then -1 else 0
def bad (a b : S) : Bool := badT a b (side a b)
def qs (a b : S) : Int := qsT a b (side a b)
def comes (a b : S) : Bool := comesT a b (side a b)
def cross (a b : S) : Int := crossT a b (side a b)
def pot (p : S) : Int := if 0 < p.1 ∧ p.2 = 0 then 4 else quarter p
def off (p : S) : Int := if p.1 = 0 ∨ p.2 = 0 then 0 else 1
def mir (p : S) : S := (p.1, -p.2)
def rot (p : S) : S := (-p.2, p.1)
def scl (k : Int) (p : S) : S := (p.1 * k, p.2 * k)

def sg (p : S) : S := (p.1.sign, p.2.sign)

theorem sign_cases (x : Int) : (x < 0 ∧ x.sign = -1) ∨ (x = 0 ∧ x.sign = 0) ∨ (0 < x ∧ x.sign = 1) := by
  rcases Int.lt_trichotomy x 0 with h | h | h
  · exact .inl ⟨h, Int.sign_eq_neg_one_of_neg h⟩
  · exact .inr (.inl ⟨h, by simp [h]⟩)
  · exact .inr (.inr ⟨h, Int.sign_eq_one_of_pos h⟩)

theorem quarter_sg (p : S) : quarter (sg p) = quarter p := by
  obtain ⟨x, y⟩ := p
  rcases sign_cases x with ⟨h1, e1⟩ | ⟨h1, e1⟩ | ⟨h1, e1⟩ <;> rcases sign_cases y with ⟨h2, e2⟩ | ⟨h2, e2⟩ | ⟨h2, e2⟩ <;>
    simp only [quarter, sg, e1, e2] <;> (repeat' split) <;> omega
theorem pot_sg (p : S) : pot (sg p) = pot p := by
  unfold pot
  rw [quarter_sg]
  obtain ⟨x, y⟩ := p
  rcases sign_cases x with ⟨h1, e1⟩ | ⟨h1, e1⟩ | ⟨h1, e1⟩ <;> rcases sign_cases y with ⟨h2, e2⟩ | ⟨h2, e2⟩ | ⟨h2, e2⟩ <;>
    simp only [sg, e1, e2] <;> (repeat' split) <;> first | rfl | (simp_all; done) | omega
theorem off_sg (p : S) : off (sg p) = off p := by
  obtain ⟨x, y⟩ := p
  rcases sign_cases x with ⟨h1, e1⟩ | ⟨h1, e1⟩ | ⟨h1, e1⟩ <;> rcases sign_cases y with ⟨h2, e2⟩ | ⟨h2, e2⟩ | ⟨h2, e2⟩ <;>
    simp only [off, sg, e1, e2] <;> (repeat' split) <;> first | rfl | (simp_all; done) | omega
theorem zero_sg (p : S) : sg p = (0, 0) ↔ p = (0, 0) := by
  obtain ⟨x, y⟩ := p
  simp only [sg, Prod.mk.injEq]
  rcases sign_cases x with ⟨h1, e1⟩ | ⟨h1, e1⟩ | ⟨h1, e1⟩ <;> rcases sign_cases y with ⟨h2, e2⟩ | ⟨h2, e2⟩ | ⟨h2, e2⟩ <;> simp only [e1, e2] <;> first | (simp; omega) | omega
theorem turn_sg (a b : S) : turn (sg a) (sg b) = turn a b := by simp only [turn, quarter_sg]
theorem badT_sg (a b : S) (s : Int) : badT (sg a) (sg b) s = badT a b s := by simp only [badT, turn_sg, zero_sg]
theorem qsT_sg (a b : S) (s : Int) : qsT (sg a) (sg b) s = qsT a b s := by simp only [qsT, turn_sg]
theorem le_sign (x : Int) : x.sign ≤ 0 ↔ x ≤ 0 := by
  rcases sign_cases x with ⟨h1, e1⟩ | ⟨h1, e1⟩ | ⟨h1, e1⟩ <;> omega
theorem pos_sign (x : Int) : 0 < x.sign ↔ 0 < x := by
  rcases sign_cases x with ⟨h1, e1⟩ | ⟨h1, e1⟩ | ⟨h1, e1⟩ <;> omega
theorem comesT_sg (a b : S) (s : Int) : comesT (sg a) (sg b) s = comesT a b s := by
  simp only [comesT, sg, ← Int.sign_mul, le_sign]
theorem crossT_sg (a b : S) (s : Int) : crossT (sg a) (sg b) s = crossT a b s := by
  simp only [crossT, sg, le_sign, pos_sign]

/-- what the signs tell of the side -/
def fitsS (a b : S) (s : Int) : Prop := (a.1 * b.2 < a.2 * b.1 → s = -1) ∧ (a.2 * b.1 < a.1 * b.2 → s = 1) ∧ (a.1 * b.2 = 0 → a.2 * b.1 = 0 → s = 0)
instance (a b : S) (s : Int) : Decidable (fitsS a b s) := by unfold fitsS; infer_instance

theorem sign_lt (u v : Int) (h : u.sign < v.sign) : u < v := by
  rcases sign_cases u with ⟨h1, e1⟩ | ⟨h1, e1⟩ | ⟨h1, e1⟩ <;> rcases sign_cases v with ⟨h2, e2⟩ | ⟨h2, e2⟩ | ⟨h2, e2⟩ <;> omega
theorem fits_sg (a b : S) : fitsS (sg a) (sg b) (side a b) := by
  unfold fitsS sg side
  simp only [← Int.sign_mul]
  refine ⟨fun h => ?_, fun h => ?_, fun h h' => ?_⟩
  · have := sign_lt _ _ h
    rw [if_pos this]
  · have := sign_lt _ _ h
    rw [if_neg (by omega), if_pos this]
  · rw [Int.sign_eq_zero_iff_zero.1 h, Int.sign_eq_zero_iff_zero.1 h']; rfl

theorem side_mem (a b : S) : side a b ∈ ([-1, 0, 1] : List Int) := by unfold side; (repeat' split) <;> simp
theorem sign_mem (x : Int) : x.sign ∈ ([-1, 0, 1] : List Int) := by
  rcases sign_cases x with ⟨h1, e1⟩ | ⟨h1, e1⟩ | ⟨h1, e1⟩ <;> simp [e1]

theorem small : ∀ x ∈ ([-1, 0, 1] : List Int), ∀ y ∈ ([-1, 0, 1] : List Int), ∀ u ∈ ([-1, 0, 1] : List Int), ∀ v ∈ ([-1, 0, 1] : List Int), ∀ s ∈ ([-1, 0, 1] : List Int),
    fitsS (x, y) (u, v) s → badT (x, y) (u, v) s = comesT (x, y) (u, v) s ∧ (badT (x, y) (u, v) s = false → qsT (x, y) (u, v) s = 4 * crossT (x, y) (u, v) s + (pot (u, v) - pot (x, y)) ∧
      badT (u, v) (x, y) (-s) = false ∧ qsT (u, v) (x, y) (-s) = - qsT (x, y) (u, v) s ∧
      badT (mir (x, y)) (mir (u, v)) (-s) = false ∧ qsT (mir (x, y)) (mir (u, v)) (-s) = - qsT (x, y) (u, v) s + (off (x, y) - off (u, v)) ∧
      badT (rot (x, y)) (rot (u, v)) s = false ∧ qsT (rot (x, y)) (rot (u, v)) s = qsT (x, y) (u, v) s ∧ -2 ≤ qsT (x, y) (u, v) s ∧ qsT (x, y) (u, v) s ≤ 2) ∧
      (badT (x, y) (u, v) s = true → badT (u, v) (x, y) (-s) = true ∧ badT (mir (x, y)) (mir (u, v)) (-s) = true ∧ badT (rot (x, y)) (rot (u, v)) s = true) := by
  decide +kernel

theorem sg_mir (p : S) : sg (mir p) = mir (sg p) := by simp [sg, mir, Int.sign_neg]
theorem sg_rot (p : S) : sg (rot p) = rot (sg p) := by simp [sg, rot, Int.sign_neg]
theorem side_swap (a b : S) : side b a = - side a b := by
  unfold side
  rw [Int.mul_comm b.1 a.2, Int.mul_comm b.2 a.1]
  (repeat' split) <;> omega
theorem side_mir (a b : S) : side (mir a) (mir b) = - side a b := by
  unfold side mir
  simp only [Int.mul_neg, Int.neg_mul]
  (repeat' split) <;> omega
theorem side_rot (a b : S) : side (rot a) (rot b) = side a b := by
  unfold side rot
  simp only [Int.mul_neg, Int.neg_mul]
  (repeat' split) <;> omega

theorem all (a b : S) : bad a b = comes a b ∧ (bad a b = false → qs a b = 4 * cross a b + (pot b - pot a) ∧ bad b a = false ∧ qs b a = - qs a b ∧
      bad (mir a) (mir b) = false ∧ qs (mir a) (mir b) = - qs a b + (off a - off b) ∧ bad (rot a) (rot b) = false ∧ qs (rot a) (rot b) = qs a b ∧ -2 ≤ qs a b ∧ qs a b ≤ 2) ∧
      (bad a b = true → bad b a = true ∧ bad (mir a) (mir b) = true ∧ bad (rot a) (rot b) = true) := by
  have h := small _ (sign_mem a.1) _ (sign_mem a.2) _ (sign_mem b.1) _ (sign_mem b.2) _ (side_mem a b) (fits_sg a b)
  change badT (sg a) (sg b) _ = comesT (sg a) (sg b) _ ∧ (badT (sg a) (sg b) _ = false → qsT (sg a) (sg b) _ = 4 * crossT (sg a) (sg b) _ + (pot (sg b) - pot (sg a)) ∧ badT (sg b) (sg a) _ = false ∧ qsT (sg b) (sg a) _ = - qsT (sg a) (sg b) _ ∧ badT (mir (sg a)) (mir (sg b)) _ = false ∧ qsT (mir (sg a)) (mir (sg b)) _ = - qsT (sg a) (sg b) _ + (off (sg a) - off (sg b)) ∧ badT (rot (sg a)) (rot (sg b)) _ = false ∧ qsT (rot (sg a)) (rot (sg b)) _ = qsT (sg a) (sg b) _ ∧ -2 ≤ qsT (sg a) (sg b) _ ∧ qsT (sg a) (sg b) _ ≤ 2) ∧ (badT (sg a) (sg b) _ = true → badT (sg b) (sg a) _ = true ∧ badT (mir (sg a)) (mir (sg b)) _ = true ∧ badT (rot (sg a)) (rot (sg b)) _ = true) at h
  simp only [← sg_mir, ← sg_rot, badT_sg, qsT_sg, comesT_sg, crossT_sg, pot_sg, off_sg] at h
  simp only [bad, qs, comes, cross, side_mir, side_rot]
  rw [side_swap a b]
  exact h


/-! sums along a way -/
def tot (f : S → S → Int) : List S → Int
  | [] => 0
  | [_] => 0
  | a :: b :: l => f a b + tot f (b :: l)
def closed (f : S → S → Int) (l : List S) : Int := tot f (l ++ l.take 1)
def badn (a b : S) : Int := if bad a b then 1 else 0

theorem tot_cut (f : S → S → Int) (l m : List S) (p : S) : tot f (l ++ p :: m) = tot f (l ++ [p]) + tot f (p :: m) := by
  induction l with
  | nil => simp [tot]
  | cons a l ih =>
    cases l with
    | nil => simp [tot]
    | cons b l =>
      simp only [List.cons_append, tot] at ih ⊢
      rw [ih]; omega

theorem tot_rev (f : S → S → Int) (l : List S) : tot f l.reverse = tot (fun a b => f b a) l := by
  induction l with
  | nil => rfl
  | cons a l ih =>
    cases l with
    | nil => rfl
    | cons b l =>
      simp only [List.reverse_cons, List.append_assoc, List.cons_append, List.nil_append] at ih ⊢
      rw [tot_cut, ih]
      simp only [tot]; omega

theorem closed_rot (f : S → S → Int) (x y : List S) : closed f (y ++ x) = closed f (x ++ y) := by
  cases x with
  | nil => simp
  | cons a x =>
    cases y with
    | nil => simp
    | cons b y =>
      unfold closed
      simp only [List.cons_append, List.take_succ_cons, List.take_zero]
      have h1 := tot_cut f (b :: y) (x ++ [b]) a
      have h2 := tot_cut f (a :: x) (y ++ [a]) b
      simp only [List.cons_append, List.append_assoc] at h1 h2 ⊢
      rw [h1, h2]; omega

theorem closed_rev (f : S → S → Int) (l : List S) : closed f l.reverse = closed (fun a b => f b a) l := by
  cases hl : l.reverse with
  | nil =>
    have : l = [] := by simpa using hl
    subst this; rfl
  | cons z r =>
    have e : l = r.reverse ++ [z] := by
      have := congrArg List.reverse hl
      simpa using this
    subst e
    rw [closed_rot (fun a b => f b a) [z] r.reverse]
    unfold closed
    have h := tot_rev f (z :: r.reverse ++ [z])
    simp only [List.cons_append, List.take_succ_cons, List.take_zero, List.nil_append, List.reverse_cons, List.reverse_append, List.reverse_nil, List.reverse_reverse] at h ⊢
    exact h

/-- two ways joined -/
def joined (a b : List S) : List S := if a = [] ∨ b = [] then [] else a ++ (a.take 1 ++ (b ++ b.take 1))
theorem closed_joined (f : S → S → Int) (p q : S) (a b : List S) : closed f (joined (p :: a) (q :: b)) = closed f (p :: a) + closed f (q :: b) + (f p q + f q p) := by
  unfold closed joined
  simp only [List.cons_ne_nil, or_self, if_false, List.cons_append, List.take_succ_cons, List.take_zero, List.append_assoc, List.nil_append]
  have h1 := tot_cut f (p :: a) (q :: (b ++ [q, p])) p
  have h2 := tot_cut f (q :: b) [p] q
  simp only [List.cons_append] at h1 h2
  rw [h1]
  simp only [tot]
  rw [h2]
  simp only [tot]; omega

theorem tot_map (f g : S → S → Int) (m : S → S) (h : ∀ a b, f (m a) (m b) = g a b) (l : List S) : tot f (l.map m) = tot g l := by
  induction l with
  | nil => rfl
  | cons a l ih =>
    cases l with
    | nil => rfl
    | cons b l =>
      simp only [List.map_cons, tot] at ih ⊢
      rw [ih, h]
theorem closed_map (f g : S → S → Int) (m : S → S) (h : ∀ a b, f (m a) (m b) = g a b) (l : List S) : closed f (l.map m) = closed g l := by
  unfold closed
  rw [← List.map_take, ← List.map_append]
  exact tot_map f g m h _

theorem badn_nonneg (a b : S) : 0 ≤ badn a b := by unfold badn; split <;> omega
theorem tot_badn_nonneg (l : List S) : 0 ≤ tot badn l := by
  induction l with
  | nil => simp [tot]
  | cons a l ih =>
    cases l with
    | nil => simp [tot]
    | cons b l =>
      have := badn_nonneg a b
      simp only [tot] at ih ⊢; omega

/-- where no line is bad: f and g are one but for a potential -/
theorem tot_pot (f g : S → S → Int) (h : S → Int) (hfg : ∀ a b, bad a b = false → f a b = g a b + (h b - h a)) (a : S) (l : List S) (z : S) (hb : tot badn (a :: (l ++ [z])) = 0) :
    tot f (a :: (l ++ [z])) = tot g (a :: (l ++ [z])) + (h z - h a) := by
  induction l generalizing a with
  | nil =>
    simp only [List.nil_append, tot, badn] at hb ⊢
    have : bad a z = false := by
      cases hh : bad a z with
      | false => rfl
      | true => rw [hh] at hb; simp at hb
    have := hfg a z this
    omega
  | cons b l ih =>
    have hb' : badn a b + tot badn (b :: (l ++ [z])) = 0 := hb
    have hb := hb'
    show f a b + tot f (b :: (l ++ [z])) = g a b + tot g (b :: (l ++ [z])) + (h z - h a)
    have h1 := badn_nonneg a b
    have h2 := tot_badn_nonneg (b :: (l ++ [z]))
    have h3 := ih b (by omega)
    have h4 : bad a b = false := by
      cases hh : bad a b with
      | false => rfl
      | true => simp only [badn, hh, if_true] at hb; omega
    have h5 := hfg a b h4
    omega
theorem closed_pot (f g : S → S → Int) (h : S → Int) (hfg : ∀ a b, bad a b = false → f a b = g a b + (h b - h a)) (l : List S) (hb : closed badn l = 0) : closed f l = closed g l := by
  cases l with
  | nil => rfl
  | cons a l =>
    unfold closed at hb ⊢
    simp only [List.cons_append, List.take_succ_cons, List.take_zero] at hb ⊢
    rw [tot_pot f g h hfg a l a hb]; omega

/-- a point's bounds -/
def fits (p : S) : Bool := decide (-1073741824 ≤ p.1 ∧ p.1 ≤ 1073741824 ∧ -1073741824 ≤ p.2 ∧ p.2 ≤ 1073741824)
/-- what the program counts -/
def wind (l : List S) : Int × Bool :=
  if (l.isEmpty || !l.all fits) = true then (0, false) else if closed badn l = 0 then ((closed qs l).tdiv 4, true) else (0, false)

theorem closed_mul (f : S → S → Int) (k : Int) (l : List S) : closed (fun a b => k * f a b) l = k * closed f l := by
  unfold closed
  generalize l ++ l.take 1 = L
  induction L with
  | nil => simp [tot]
  | cons a l ih =>
    cases l with
    | nil => simp [tot]
    | cons b l => simp only [tot] at ih ⊢; rw [ih, Int.mul_add]
theorem closed_neg (f : S → S → Int) (l : List S) : closed (fun a b => - f a b) l = - closed f l := by
  have := closed_mul f (-1) l
  simpa using this

theorem closed_qs (l : List S) (hb : closed badn l = 0) : closed qs l = 4 * closed cross l := by
  rw [← closed_mul]
  exact closed_pot qs (fun a b => 4 * cross a b) pot (fun a b h => ((all a b).2.1 h).1) l hb
theorem wind_eq (l : List S) : wind l = if (l.isEmpty || !l.all fits) = true then (0, false) else if closed badn l = 0 then (closed cross l, true) else (0, false) := by
  unfold wind
  by_cases h : (l.isEmpty || !l.all fits) = true
  · rw [if_pos h, if_pos h]
  · rw [if_neg h, if_neg h]
    by_cases hb : closed badn l = 0
    · rw [if_pos hb, if_pos hb, closed_qs l hb]
      simp
    · rw [if_neg hb, if_neg hb]

theorem all_perm {l m : List S} (h : ∀ x, x ∈ l ↔ x ∈ m) : l.all fits = m.all fits := by
  rw [Bool.eq_iff_iff, List.all_eq_true, List.all_eq_true]
  exact ⟨fun g x hx => g x ((h x).2 hx), fun g x hx => g x ((h x).1 hx)⟩

theorem wind_rot (x y : List S) : wind (y ++ x) = wind (x ++ y) := by
  have h1 : (y ++ x).all fits = (x ++ y).all fits := all_perm (by intro x1; simp only [List.mem_append]; exact Or.comm)
  have h2 : (y ++ x).isEmpty = (x ++ y).isEmpty := by cases x <;> cases y <;> rfl
  unfold wind
  rw [closed_rot badn x y, closed_rot qs x y, h1, h2]

theorem badn_swap (a b : S) : badn b a = badn a b := by
  unfold badn
  cases h : bad a b with
  | true => rw [((all a b).2.2 h).1]
  | false => rw [((all a b).2.1 h).2.1]
theorem wind_rev (l : List S) : (wind l.reverse).1 = - (wind l).1 ∧ (wind l.reverse).2 = (wind l).2 := by
  have h1 : l.reverse.all fits = l.all fits := all_perm (by simp)
  have h2 : l.reverse.isEmpty = l.isEmpty := by simp
  have h3 : closed badn l.reverse = closed badn l := by
    rw [closed_rev]; congr 1; funext a b; exact badn_swap a b
  unfold wind
  rw [h1, h2, h3]
  by_cases h : (l.isEmpty || !l.all fits) = true
  · rw [if_pos h, if_pos h]; simp
  · rw [if_neg h, if_neg h]
    by_cases hb : closed badn l = 0
    · rw [if_pos hb, if_pos hb]
      have : closed qs l.reverse = - closed qs l := by
        rw [closed_rev, ← closed_neg]
        exact closed_pot _ _ (fun _ => 0) (fun a b h => by have := ((all a b).2.1 h).2.2.1; omega) l hb
      rw [this]
      simp [Int.neg_tdiv]
    · rw [if_neg hb, if_neg hb]; simp

theorem closed_bad_congr (m : S → S) (hm : ∀ a b, bad (m a) (m b) = bad a b) (l : List S) : closed badn (l.map m) = closed badn l :=
  closed_map badn badn m (fun a b => by simp only [badn, hm]) l

theorem bad_mir (a b : S) : bad (mir a) (mir b) = bad a b := by
  cases h : bad a b with
  | true => exact ((all a b).2.2 h).2.1
  | false => exact ((all a b).2.1 h).2.2.2.1
theorem bad_rot (a b : S) : bad (rot a) (rot b) = bad a b := by
  cases h : bad a b with
  | true => exact ((all a b).2.2 h).2.2
  | false => exact ((all a b).2.1 h).2.2.2.2.2.1

theorem sign_scl (k : Int) (hk : 0 < k) (x : Int) : (x * k).sign = x.sign := by
  rw [Int.sign_mul, Int.sign_eq_one_of_pos hk, Int.mul_one]
theorem sg_scl (k : Int) (hk : 0 < k) (p : S) : sg (scl k p) = sg p := by simp [sg, scl, sign_scl k hk]
theorem side_sign (a b : S) : side a b = (a.1 * b.2 - a.2 * b.1).sign := by
  unfold side
  rcases Int.lt_trichotomy (a.1 * b.2) (a.2 * b.1) with h | h | h
  · rw [if_pos h, Int.sign_eq_neg_one_of_neg (by omega)]
  · rw [h]; simp
  · rw [if_neg (by omega), if_pos h, Int.sign_eq_one_of_pos (by omega)]
theorem side_scl (k : Int) (hk : 0 < k) (a b : S) : side (scl k a) (scl k b) = side a b := by
  rw [side_sign, side_sign]
  have : (scl k a).1 * (scl k b).2 - (scl k a).2 * (scl k b).1 = (a.1 * b.2 - a.2 * b.1) * (k * k) := by
    simp only [scl]
    rw [Int.sub_mul]
    simp only [Int.mul_assoc, Int.mul_left_comm k]
  rw [this, Int.sign_mul, Int.sign_eq_one_of_pos (Int.mul_pos hk hk), Int.mul_one]
theorem bad_scl (k : Int) (hk : 0 < k) (a b : S) : bad (scl k a) (scl k b) = bad a b := by
  unfold bad
  rw [side_scl k hk, ← badT_sg, sg_scl k hk, sg_scl k hk, badT_sg]
theorem qs_scl (k : Int) (hk : 0 < k) (a b : S) : qs (scl k a) (scl k b) = qs a b := by
  unfold qs
  rw [side_scl k hk, ← qsT_sg, sg_scl k hk, sg_scl k hk, qsT_sg]

theorem wind_of (l m : List S) (h1 : m.isEmpty = l.isEmpty) (h2 : m.all fits = l.all fits) (h3 : closed badn m = closed badn l) (s : Int) (hs : s = 1 ∨ s = -1) (h4 : closed badn l = 0 → closed qs m = s * closed qs l) :
    (wind m).1 = s * (wind l).1 ∧ (wind m).2 = (wind l).2 := by
  unfold wind
  rw [h1, h2, h3]
  by_cases h : (l.isEmpty || !l.all fits) = true
  · rw [if_pos h, if_pos h]; simp
  · rw [if_neg h, if_neg h]
    by_cases hb : closed badn l = 0
    · rw [if_pos hb, if_pos hb, h4 hb]
      rcases hs with rfl | rfl <;> simp [Int.neg_tdiv]
    · rw [if_neg hb, if_neg hb]; simp

theorem wind_mir (l : List S) : (wind (l.map mir)).1 = - (wind l).1 ∧ (wind (l.map mir)).2 = (wind l).2 := by
  have h := wind_of l (l.map mir) (by simp) (by rw [List.all_map]; congr 1; funext p; exact decide_eq_decide.2 (by simp only [mir]; omega)) (closed_bad_congr mir bad_mir l) (-1) (.inr rfl) (fun hb => ?_)
  · simpa using h
  · have h1 : closed qs (l.map mir) = closed (fun a b => qs (mir a) (mir b)) l := closed_map _ _ mir (fun _ _ => rfl) l
    have h2 : closed (fun a b => qs (mir a) (mir b)) l = closed (fun a b => - qs a b) l := closed_pot _ _ (fun p => - off p) (fun a b h => by have := ((all a b).2.1 h).2.2.2.2.1; omega) l hb
    rw [h1, h2, closed_neg]; omega
theorem wind_turned (l : List S) : wind (l.map rot) = wind l := by
  have h := wind_of l (l.map rot) (by simp) (by rw [List.all_map]; congr 1; funext p; exact decide_eq_decide.2 (by simp only [rot]; omega)) (closed_bad_congr rot bad_rot l) 1 (.inl rfl) (fun hb => ?_)
  · exact Prod.ext (by simpa using h.1) h.2
  · have h1 : closed qs (l.map rot) = closed (fun a b => qs (rot a) (rot b)) l := closed_map _ _ rot (fun _ _ => rfl) l
    have h2 : closed (fun a b => qs (rot a) (rot b)) l = closed qs l := closed_pot _ _ (fun _ => 0) (fun a b h => by have := ((all a b).2.1 h).2.2.2.2.2.2.1; omega) l hb
    rw [h1, h2]; omega
theorem wind_scl (k : Int) (h0 : 1 ≤ k) (h1 : k ≤ 1000) (l : List S) (hl : ∀ p ∈ l, -1048576 ≤ p.1 ∧ p.1 ≤ 1048576 ∧ -1048576 ≤ p.2 ∧ p.2 ≤ 1048576) : wind (l.map (scl k)) = wind l := by
  have hbd : ∀ x : Int, -1048576 ≤ x → x ≤ 1048576 → -1073741824 ≤ x * k ∧ x * k ≤ 1073741824 := by
    intro x ha hb
    have g1 : x * k ≤ 1048576 * k := Int.mul_le_mul_of_nonneg_right hb (by omega)
    have g2 : -1048576 * k ≤ x * k := Int.mul_le_mul_of_nonneg_right ha (by omega)
    omega
  have hf : ∀ p ∈ l, fits p = true := fun p hp => by have := hl p hp; simp only [fits, decide_eq_true_eq]; omega
  have hf' : ∀ p ∈ l.map (scl k), fits p = true := fun p hp => by
    obtain ⟨q, hq, rfl⟩ := List.mem_map.1 hp
    have := hl q hq
    have g1 := hbd q.1 (by omega) (by omega)
    have g2 := hbd q.2 (by omega) (by omega)
    exact decide_eq_true (by simp only [scl]; omega)
  have h := wind_of l (l.map (scl k)) (by simp) (by rw [List.all_eq_true.2 hf, List.all_eq_true.2 hf']) (closed_bad_congr (scl k) (bad_scl k (by omega)) l) 1 (.inl rfl)
    (fun _ => by rw [closed_map qs qs (scl k) (qs_scl k (by omega))]; omega)
  exact Prod.ext (by simpa using h.1) h.2

theorem wind_joined (a b : List S) (ha : (wind a).2 = true) (hb : (wind b).2 = true) (hc : (wind (joined a b)).2 = true) : (wind (joined a b)).1 = (wind a).1 + (wind b).1 := by
  cases a with
  | nil => simp [wind] at ha
  | cons p a =>
    cases b with
    | nil => simp [wind] at hb
    | cons q b =>
      rw [wind_eq] at ha hb hc ⊢
      rw [wind_eq (p :: a), wind_eq (q :: b)]
      split at ha
      · simp at ha
      · rename_i g1
        split at ha
        · rename_i z1
          split at hb
          · simp at hb
          · rename_i g2
            split at hb
            · rename_i z2
              split at hc
              · simp at hc
              · rename_i g3
                split at hc
                · rename_i z3
                  rw [if_neg g1, if_pos z1, if_neg g2, if_pos z2, if_neg g3, if_pos z3]
                  show closed cross _ = closed cross _ + closed cross _
                  rw [closed_joined] at z3 ⊢
                  have n1 := badn_nonneg p q
                  have n2 := badn_nonneg q p
                  have n3 : badn p q = 0 := by omega
                  have n4 : bad p q = false := by
                    cases hh : bad p q with
                    | false => rfl
                    | true => simp [badn, hh] at n3
                  have e1 := ((all p q).2.1 n4).1
                  have e2 := ((all p q).2.1 n4).2.2.1
                  have e3 := ((all q p).2.1 ((all p q).2.1 n4).2.1).1
                  omega
                · simp at hc
            · simp at hb
        · simp at ha

/-! the document's own count -/
def windRef (l : List S) : Int × Bool := if l.all fits = false then (0, false) else if closed badn l = 0 then (closed cross l, decide (0 < l.length)) else (0, false)
theorem wind_ref (l : List S) : wind l = windRef l := by
  rw [wind_eq]
  unfold windRef
  cases l with
  | nil => simp [closed, tot]
  | cons a l => simp only [List.isEmpty_cons, Bool.false_or, Bool.not_eq_true', List.length_cons, Nat.zero_lt_succ, decide_true]

/-! a way around a box -/
theorem wind_box (x y u v : Int) (h1 : x < u) (h2 : y < v) (hx : -1073741824 ≤ x) (hu : u ≤ 1073741824) (hy : -1073741824 ≤ y) (hv : v ≤ 1073741824) :
    wind [(x, y), (u, y), (u, v), (x, v)] = if x < 0 ∧ 0 < u ∧ y < 0 ∧ 0 < v then (1, true) else if 0 < x ∨ u < 0 ∨ 0 < y ∨ v < 0 then (0, true) else (0, false) := by
  have hf : ([(x, y), (u, y), (u, v), (x, v)] : List S).all fits = true := by simp only [List.all_cons, List.all_nil, fits, Bool.and_eq_true, decide_eq_true_eq, and_true]; omega
  rw [wind_eq, hf]
  simp only [List.isEmpty_cons, Bool.not_true, Bool.or_self, Bool.false_eq_true, if_false]
  have e1 : ∀ f, closed f [(x, y), (u, y), (u, v), (x, v)] = f (x, y) (u, y) + (f (u, y) (u, v) + (f (u, v) (x, v) + f (x, v) (x, y))) := fun f => by simp [closed, tot]
  rw [e1, e1]
  have s1 : side (x, y) (u, y) = -y.sign := by
    rw [side_sign]; show (x * y - y * u).sign = _
    rw [show x * y - y * u = (-y) * (u - x) from by rw [Int.mul_sub, Int.neg_mul, Int.neg_mul, Int.mul_comm x y]; omega, Int.sign_mul, Int.sign_eq_one_of_pos (by omega : 0 < u - x), Int.sign_neg]; omega
  have s2 : side (u, y) (u, v) = u.sign := by
    rw [side_sign]; show (u * v - y * u).sign = _
    rw [show u * v - y * u = u * (v - y) from by rw [Int.mul_sub, Int.mul_comm y u], Int.sign_mul, Int.sign_eq_one_of_pos (by omega : 0 < v - y)]; omega
  have s3 : side (u, v) (x, v) = v.sign := by
    rw [side_sign]; show (u * v - v * x).sign = _
    rw [show u * v - v * x = v * (u - x) from by rw [Int.mul_sub, Int.mul_comm u v], Int.sign_mul, Int.sign_eq_one_of_pos (by omega : 0 < u - x)]; omega
  have s4 : side (x, v) (x, y) = -x.sign := by
    rw [side_sign]; show (x * y - v * x).sign = _
    rw [show x * y - v * x = (-x) * (v - y) from by rw [Int.mul_sub, Int.neg_mul, Int.neg_mul, Int.mul_comm v x]; omega, Int.sign_mul, Int.sign_eq_one_of_pos (by omega : 0 < v - y), Int.sign_neg]; omega
  have k1 : ∀ a b : S, badn a b = badn (sg a) (sg b) ∨ True := fun _ _ => .inr trivial
  have b1 : ∀ a b : S, badn a b = if badT (sg a) (sg b) (side a b) then 1 else 0 := fun a b => by rw [badT_sg]; rfl
  have c1 : ∀ a b : S, cross a b = crossT (sg a) (sg b) (side a b) := fun a b => by rw [crossT_sg]; rfl
  simp only [b1, c1, s1, s2, s3, s4, sg]
  rcases sign_cases x with ⟨i1, j1⟩ | ⟨i1, j1⟩ | ⟨i1, j1⟩ <;> rcases sign_cases y with ⟨i2, j2⟩ | ⟨i2, j2⟩ | ⟨i2, j2⟩ <;>
    rcases sign_cases u with ⟨i3, j3⟩ | ⟨i3, j3⟩ | ⟨i3, j3⟩ <;> rcases sign_cases v with ⟨i4, j4⟩ | ⟨i4, j4⟩ | ⟨i4, j4⟩ <;>
    first
      | omega
      | (rw [j1, j2, j3, j4, if_pos (show x < 0 ∧ 0 < u ∧ y < 0 ∧ 0 < v from by omega)]; decide +kernel)
      | (rw [j1, j2, j3, j4, if_neg (show ¬ (x < 0 ∧ 0 < u ∧ y < 0 ∧ 0 < v) from by omega), if_pos (show 0 < x ∨ u < 0 ∨ 0 < y ∨ v < 0 from by omega)]; decide +kernel)
      | (rw [j1, j2, j3, j4, if_neg (show ¬ (x < 0 ∧ 0 < u ∧ y < 0 ∧ 0 < v) from by omega), if_neg (show ¬ (0 < x ∨ u < 0 ∨ 0 < y ∨ v < 0) from by omega)]; decide +kernel)

end Go.Proofs.Deg
