/- Plain arithmetic: the sums over the lines of a closed way, one by one; nothing of Go. -/
import Derived.Test.YtakajahogjeiaaaDegMath
namespace Go.Proofs.Deg
set_option linter.unusedSimpArgs false
set_option linter.unusedVariables false

def pt (l : List S) (i : Nat) : S := (l[i]?).getD (0, 0)
def line (l : List S) (i : Nat) : S × S := (pt l i, pt l ((i + 1) % l.length))
def part (f : S → S → Int) (l : List S) : Nat → Int
  | 0 => 0
  | k + 1 => part f l k + f (line l k).1 (line l k).2

theorem tot_take (f : S → S → Int) (M : List S) (k : Nat) (h : k + 1 < M.length) : tot f (M.take (k + 2)) = tot f (M.take (k + 1)) + f (pt M k) (pt M (k + 1)) := by
  have h0 : k < M.length := by omega
  have e0 : pt M k = M[k] := by simp [pt, h0]
  have e1 : pt M (k + 1) = M[k + 1] := by simp [pt, h]
  have t1 : M.take (k + 1) = M.take k ++ [M[k]] := by rw [List.take_add_one, List.getElem?_eq_getElem h0]; rfl
  have t2 : M.take (k + 2) = M.take k ++ M[k] :: [M[k + 1]] := by
    show M.take (k + 1 + 1) = _
    rw [List.take_add_one, List.getElem?_eq_getElem h, t1, List.append_assoc]; rfl
  rw [t2, tot_cut f (M.take k) [M[k + 1]] M[k], ← t1, e0, e1]
  simp [tot]
theorem part_tot (f : S → S → Int) (l : List S) (hl : l ≠ []) (k : Nat) (hk : k ≤ l.length) : part f l k = tot f ((l ++ l.take 1).take (k + 1)) := by
  obtain ⟨a, l', rfl⟩ : ∃ a l', l = a :: l' := by
    cases l with
    | nil => exact absurd rfl hl
    | cons a l' => exact ⟨a, l', rfl⟩
  induction k with
  | zero => simp [part, tot]
  | succ k ih =>
    have hlen : ((a :: l') ++ (a :: l').take 1).length = l'.length + 2 := by simp
    have hk' : k + 1 ≤ l'.length + 1 := by simpa using hk
    rw [tot_take f _ k (by rw [hlen]; omega), ← ih (by simp at hk ⊢; omega)]
    have p0 : pt ((a :: l') ++ (a :: l').take 1) k = pt (a :: l') k := by
      unfold pt
      rw [List.getElem?_append_left (by simp; omega)]
    have p1 : pt ((a :: l') ++ (a :: l').take 1) (k + 1) = pt (a :: l') ((k + 1) % (a :: l').length) := by
      unfold pt
      rcases Nat.lt_or_ge (k + 1) (a :: l').length with h | h
      · rw [List.getElem?_append_left h, Nat.mod_eq_of_lt h]
      · have e : k + 1 = (a :: l').length := by simp at h ⊢; omega
        rw [e, Nat.mod_self, List.getElem?_append_right (Nat.le_refl _)]
        simp
    rw [p0, p1]
    rfl
theorem part_all (f : S → S → Int) (l : List S) : part f l l.length = closed f l := by
  cases l with
  | nil => rfl
  | cons a l' =>
    rw [part_tot f _ (by simp) _ (Nat.le_refl _)]
    unfold closed
    rw [List.take_of_length_le (by simp)]
theorem part_badn (l : List S) (k : Nat) : 0 ≤ part badn l k ∧ ((∀ i, i < k → bad (line l i).1 (line l i).2 = false) → part badn l k = 0) ∧ (∀ i, i < k → bad (line l i).1 (line l i).2 = true → 0 < part badn l k) := by
  induction k with
  | zero => exact ⟨Int.le_refl _, fun _ => rfl, fun i hi => absurd hi (by omega)⟩
  | succ k ih =>
    obtain ⟨i0, i1, i2⟩ := ih
    have hb := badn_nonneg (line l k).1 (line l k).2
    refine ⟨by simp only [part]; omega, fun h => ?_, fun i hi hx => ?_⟩
    · simp only [part]
      rw [i1 (fun i hi => h i (by omega))]
      have := h k (by omega)
      simp [badn, this]
    · simp only [part]
      by_cases e : i = k
      · subst e
        have : badn (line l i).1 (line l i).2 = 1 := by simp [badn, hx]
        omega
      · have := i2 i (by omega) hx
        omega
theorem qs_bd (a b : S) : -2 ≤ qs a b ∧ qs a b ≤ 2 := by
  have h := side_mem a b
  have ht : 0 ≤ turn a b ∧ turn a b < 4 := by unfold turn; omega
  simp only [List.mem_cons, List.not_mem_nil, or_false] at h
  unfold qs qsT
  split
  · omega
  · split <;> omega
theorem part_bd (f : S → S → Int) (c : Int) (hf : ∀ a b, -c ≤ f a b ∧ f a b ≤ c) (l : List S) (k : Nat) : -(c * k) ≤ part f l k ∧ part f l k ≤ c * k := by
  induction k with
  | zero => simp [part]
  | succ k ih =>
    have := hf (line l k).1 (line l k).2
    simp only [part]
    have e : c * ((k + 1 : Nat) : Int) = c * k + c := by rw [Int.natCast_add, Int.mul_add]; simp
    rw [e]
    omega
theorem cross_bd (a b : S) : -1 ≤ cross a b ∧ cross a b ≤ 1 := by
  unfold cross crossT
  split
  · omega
  · split <;> omega

/-- a way that has a line through nought -/
theorem wind_bad (l : List S) (i : Nat) (hi : i < l.length) (hb : bad (line l i).1 (line l i).2 = true) : wind l = (0, false) := by
  unfold wind
  split
  · rfl
  · have := (part_badn l l.length).2.2 i hi hb
    rw [part_all] at this
    rw [if_neg (by omega)]
theorem wind_good (l : List S) (h0 : l ≠ []) (hf : l.all fits = true) (hb : ∀ i, i < l.length → bad (line l i).1 (line l i).2 = false) : wind l = ((part qs l l.length).tdiv 4, true) := by
  have := (part_badn l l.length).2.1 hb
  rw [part_all] at this
  unfold wind
  rw [if_neg (by simp [h0, hf]), if_pos this, part_all]
theorem wind_unfit (l : List S) (h : l.isEmpty = true ∨ l.all fits = false) : wind l = (0, false) := by
  unfold wind
  rw [if_pos]
  rcases h with h | h <;> simp [h]
theorem windRef_bad (l : List S) (i : Nat) (hi : i < l.length) (hb : bad (line l i).1 (line l i).2 = true) : windRef l = (0, false) := by
  rw [← wind_ref]; exact wind_bad l i hi hb
theorem windRef_good (l : List S) (hf : l.all fits = true) (hb : ∀ i, i < l.length → bad (line l i).1 (line l i).2 = false) : windRef l = (part cross l l.length, decide (0 < l.length)) := by
  have := (part_badn l l.length).2.1 hb
  rw [part_all] at this
  unfold windRef
  rw [if_neg (by simp [hf]), if_pos this, part_all]
theorem wind_bd (l : List S) (h : l.length ≤ 1000) : -1000 ≤ (wind l).1 ∧ (wind l).1 ≤ 1000 := by
  have hb := part_bd cross 1 cross_bd l l.length
  rw [part_all] at hb
  rw [wind_eq]
  split
  · simp
  · split
    · show -1000 ≤ closed cross l ∧ closed cross l ≤ 1000
      omega
    · simp
/-- the lines, in their order -/
def linesOf (l : List S) (k : Nat) : List (S × S) := (List.range k).map (line l)
theorem linesOf_succ (l : List S) (k : Nat) : linesOf l (k + 1) = linesOf l k ++ [line l k] := by simp [linesOf, List.range_succ]
theorem linesOf_length (l : List S) (k : Nat) : (linesOf l k).length = k := by simp [linesOf]
def sumq (p : List (S × S)) : Int := p.foldl (fun s x => s + qs x.1 x.2) 0
theorem sumq_snoc (p : List (S × S)) (x : S × S) : sumq (p ++ [x]) = sumq p + qs x.1 x.2 := by simp [sumq]
theorem sumq_bd0 (p : List (S × S)) (s : Int) : s - 2 * (p.length : Int) ≤ p.foldl (fun s x => s + qs x.1 x.2) s ∧ p.foldl (fun s x => s + qs x.1 x.2) s ≤ s + 2 * (p.length : Int) := by
  induction p generalizing s with
  | nil => simp
  | cons x p ih =>
    have := qs_bd x.1 x.2
    have := ih (s + qs x.1 x.2)
    simp only [List.foldl_cons, List.length_cons]
    omega
theorem sumq_bd (p : List (S × S)) : -(2 * (p.length : Int)) ≤ sumq p ∧ sumq p ≤ 2 * (p.length : Int) := by
  have := sumq_bd0 p 0
  unfold sumq
  omega
theorem sumq_lines (l : List S) (k : Nat) : sumq (linesOf l k) = part qs l k := by
  induction k with
  | zero => rfl
  | succ k ih => rw [linesOf_succ, sumq_snoc, ih]; rfl
theorem lines_good (l : List S) (k : Nat) (h : ∀ x ∈ linesOf l k, bad x.1 x.2 = false) : ∀ i, i < k → bad (line l i).1 (line l i).2 = false := fun i hi =>
  h _ (by unfold linesOf; exact List.mem_map.2 ⟨i, List.mem_range.2 hi, rfl⟩)
theorem lines_bad (l : List S) (k : Nat) (hk : k ≤ l.length) (x : S × S) (hx : x ∈ linesOf l k) (hb : bad x.1 x.2 = true) : wind l = (0, false) := by
  unfold linesOf at hx
  obtain ⟨i, hi, rfl⟩ := List.mem_map.1 hx
  exact wind_bad l i (by have := List.mem_range.1 hi; omega) hb
end Go.Proofs.Deg
