/- Plain: boxes as lists of intervals: what they have, what is within them, what two have, their hull, their halves. Nothing of Go. -/
import Derived.Test.YtagojbgmgkkdpaaGreatArP
import Derived.Test.YtagojbgmgkkdpaaGreatIvPl5
namespace Go.Proofs.Pl
set_option linter.unusedSimpArgs false
set_option linter.unusedVariables false

def noneB (x : Iv) : Bool := x.emp || !mayI x
def emptyB (b : List Iv) : Bool := b.any noneB
def fairB (b : List Iv) : List Iv := if emptyB b = true then List.replicate b.length noneI else b
def hasL : List Iv → List Num → Bool
 | [], [] => true
 | x :: b, n :: p => hasI x n && hasL b p
 | _, _ => false
def withinL : List Iv → List Iv → Bool
 | [], [] => true
 | x :: a, y :: b => withinI x y && withinL a b
 | _, _ => false
def withinB (a b : List Iv) : Bool := decide (a.length = b.length) && (emptyB a || withinL a b)
def meet2 (x y : Iv) : Iv := meetI [x, y]
def hull2 (x y : Iv) : Iv := hullI [x, y]
def meetB (a b : List Iv) : List Iv := if a.length = b.length then fairB (List.zipWith meet2 a b) else []
def hullB (a b : List Iv) : List Iv := if a.length = b.length then (if emptyB a = true then fairB b else if emptyB b = true then fairB a else List.zipWith hull2 a b) else []
def ivAt (b : List Iv) (k : Nat) : Iv := b.getD k noneI
def bestN (b : List Iv) : Nat → Nat
 | 0 => 0
 | k + 1 => if 0 < cmpN (widthI (ivAt b k)) (widthI (ivAt b (bestN b k))) then k else bestN b k
def widestB (b : List Iv) : Int := if emptyB b = true ∨ b.length = 0 then -1 else bestN b b.length
def halfA (b : List Iv) (i : Nat) : List Iv := fairB (b.set i (splitA (ivAt b i)))
def halfB (b : List Iv) (i : Nat) : List Iv := fairB (b.set i (splitB (ivAt b i)))

theorem noneB_full (x : Iv) : noneB x = false ↔ Full x := by
 unfold noneB Full
 simp [and_comm]
theorem noneB_fair (x : Iv) : noneB x = (fairI x).emp := by
 rw [Bool.eq_iff_iff]
 have h1 := noneB_full x
 have h2 := fairI_emp x
 cases h3 : noneB x <;> cases h4 : (fairI x).emp <;> simp_all
theorem emptyB_full (b : List Iv) : emptyB b = false ↔ ∀ x ∈ b, Full x := by
 unfold emptyB
 rw [List.any_eq_false]
 simp only [Bool.not_eq_true, noneB_full]
theorem fairB_len (b : List Iv) : (fairB b).length = b.length := by
 unfold fairB
 split <;> simp
theorem fairB_full {b : List Iv} (h : emptyB b = false) : fairB b = b := by
 unfold fairB
 rw [if_neg (by simp [h])]
theorem has_none (n : Num) (wn : Wf n) : hasI noneI n = false := by
 cases h : hasI noneI n
 ·rfl
 ·exact absurd ((has_iff noneI_wf wn).1 h).1 none_not_full
theorem hasL_len : ∀ (b : List Iv) (p : List Num), hasL b p = true → b.length = p.length
 | [], [], _ => rfl
 | x :: b, n :: p, h => by
  simp only [hasL, Bool.and_eq_true] at h
  simp [hasL_len b p h.2]
 | [], _ :: _, h => by simp [hasL] at h
 | _ :: _, [], h => by simp [hasL] at h
theorem hasL_empty : ∀ (b : List Iv) (p : List Num), (∀ n ∈ p, Wf n) → (∀ x ∈ b, WfIv x) → emptyB b = true → hasL b p = false
 | [], p, _, _, h => by simp [emptyB] at h
 | x :: b, [], _, _, _ => rfl
 | x :: b, n :: p, wp, wb, h => by
  simp only [emptyB, List.any_cons, Bool.or_eq_true] at h
  simp only [hasL]
  rcases h with h | h
  ·cases hx : hasI x n
   ·rfl
   ·have := ((has_iff (wb x (by simp)) (wp n (by simp))).1 hx).1
    rw [← noneB_full, h] at this
    cases this
  ·rw [hasL_empty b p (fun n hn => wp n (by simp [hn])) (fun x hx => wb x (by simp [hx])) h, Bool.and_false]
theorem hasL_repl (k : Nat) (p : List Num) (hk : 0 < k) (wp : ∀ n ∈ p, Wf n) : hasL (List.replicate k noneI) p = false := by
 refine hasL_empty _ p wp (fun x hx => by rw [(List.mem_replicate.1 hx).2]; exact noneI_wf) ?_
 obtain ⟨k, rfl⟩ : ∃ j, k = j + 1 := ⟨k - 1, by omega⟩
 simp [emptyB, List.replicate_succ, noneB, noneI]
theorem hasL_fair (b : List Iv) (p : List Num) (wp : ∀ n ∈ p, Wf n) (wb : ∀ x ∈ b, WfIv x) : hasL (fairB b) p = hasL b p := by
 cases h : emptyB b
 ·rw [fairB_full h]
 ·rw [hasL_empty b p wp wb h]
  unfold fairB
  rw [if_pos h]
  refine hasL_repl _ p ?_ wp
  cases b with
  | nil => simp [emptyB] at h
  | cons x b => simp
theorem has_meet2 {x y : Iv} {n : Num} (wx : WfIv x) (wy : WfIv y) (wn : Wf n) : hasI (meet2 x y) n = (hasI x n && hasI y n) := by
 unfold meet2
 rw [Bool.eq_iff_iff, has_meet _ n (wf2 wx wy) wn, all2, Bool.and_eq_true]
 exact ⟨fun h => h.2, fun h => ⟨has_fin wx wn h.1, h⟩⟩
theorem hasL_meet : ∀ (a b : List Iv) (p : List Num), a.length = b.length → (∀ n ∈ p, Wf n) → (∀ x ∈ a, WfIv x) → (∀ x ∈ b, WfIv x) → hasL (List.zipWith meet2 a b) p = (hasL a p && hasL b p)
 | [], [], [], _, _, _, _ => rfl
 | [], [], _ :: _, _, _, _, _ => rfl
 | x :: a, y :: b, [], _, _, _, _ => rfl
 | x :: a, y :: b, n :: p, h, wp, wa, wb => by
  simp only [List.zipWith_cons_cons, hasL]
  rw [hasL_meet a b p (by simpa using h) (fun n hn => wp n (by simp [hn])) (fun x hx => wa x (by simp [hx])) (fun x hx => wb x (by simp [hx])), has_meet2 (wa x (by simp)) (wb y (by simp)) (wp n (by simp))]
  cases hasI x n <;> cases hasI y n <;> cases hasL a p <;> cases hasL b p <;> rfl
theorem meet2_wf {x y : Iv} (wx : WfIv x) (wy : WfIv y) : WfIv (meet2 x y) := meet_wf _ (wf2 wx wy)
theorem hull2_wf {x y : Iv} (wx : WfIv x) (wy : WfIv y) : WfIv (hull2 x y) := hull_wf _ (wf2 wx wy)
theorem zip_wf {f : Iv → Iv → Iv} (hf : ∀ x y, WfIv x → WfIv y → WfIv (f x y)) : ∀ (a b : List Iv), (∀ x ∈ a, WfIv x) → (∀ x ∈ b, WfIv x) → ∀ x ∈ List.zipWith f a b, WfIv x
 | [], _, _, _, x, hx => by simp at hx
 | _ :: _, [], _, _, x, hx => by simp at hx
 | x :: a, y :: b, wa, wb, z, hz => by
  simp only [List.zipWith_cons_cons, List.mem_cons] at hz
  rcases hz with rfl | hz
  ·exact hf x y (wa x (by simp)) (wb y (by simp))
  ·exact zip_wf hf a b (fun x hx => wa x (by simp [hx])) (fun x hx => wb x (by simp [hx])) z hz
theorem hasB_meet (a b : List Iv) (p : List Num) (h : a.length = b.length) (wp : ∀ n ∈ p, Wf n) (wa : ∀ x ∈ a, WfIv x) (wb : ∀ x ∈ b, WfIv x) : hasL (meetB a b) p = (hasL a p && hasL b p) := by
 unfold meetB
 rw [if_pos h, hasL_fair _ p wp (zip_wf (fun _ _ => meet2_wf) a b wa wb), hasL_meet a b p h wp wa wb]
/-! halves -/
theorem split_none {x : Iv} (f : ¬ Full x) : splitA x = noneI ∧ splitB x = noneI := by
 have e : fairI x = noneI := by
  rcases fairI_cases x with ⟨h, _⟩ | ⟨_, e⟩
  ·exact absurd h f
  ·exact e
 unfold splitA splitB
 rw [e]
 exact ⟨rfl, rfl⟩
theorem split_wf {x : Iv} (wx : WfIv x) : WfIv (splitA x) ∧ WfIv (splitB x) := by
 by_cases f : Full x
 ·obtain ⟨h1, h2, _, _⟩ := split_spec wx f
  have m := (mid_spec wx f).2.1
  rw [h1, h2]
  exact ⟨⟨wx.1, m⟩, ⟨m, wx.2⟩⟩
 ·obtain ⟨h1, h2⟩ := split_none f
  rw [h1, h2]
  exact ⟨noneI_wf, noneI_wf⟩
theorem has_split {x : Iv} {n : Num} (wx : WfIv x) (wn : Wf n) : (hasI (splitA x) n || hasI (splitB x) n) = hasI x n := by
 have w := split_wf wx
 rw [Bool.eq_iff_iff, Bool.or_eq_true, has_iff w.1 wn, has_iff w.2 wn, has_iff wx wn]
 by_cases f : Full x
 ·obtain ⟨h1, h2, f1, f2⟩ := split_spec wx f
  obtain ⟨m1, m2, m3, m4, m5, m6⟩ := mid_spec wx f
  rw [h1, h2]
  constructor
  ·rintro (⟨_, a, b, c⟩ | ⟨_, a, b, c⟩)
   ·simp only at b c; exact ⟨f, a, b, by omega⟩
   ·simp only at b c; exact ⟨f, a, by omega, c⟩
  ·rintro ⟨_, a, b, c⟩
   by_cases hk : K n ≤ key (midI x)
   ·exact .inl ⟨f1, a, b, hk⟩
   ·exact .inr ⟨f2, a, by simp only; omega, c⟩
 ·obtain ⟨h1, h2⟩ := split_none f
  rw [h1, h2]
  simp [none_not_full, f]
theorem hasL_set : ∀ (a : List Iv) (i : Nat) (p : List Num) (s t : Iv), i < a.length → (∀ n ∈ p, (hasI s n || hasI t n) = hasI (ivAt a i) n) → (hasL (a.set i s) p || hasL (a.set i t) p) = hasL a p
 | [], _, _, _, _, h, _ => by simp at h
 | x :: a, 0, [], _, _, _, _ => rfl
 | x :: a, 0, n :: p, s, t, _, h => by
  have := h n (by simp)
  simp only [ivAt, List.getD_cons_zero] at this
  simp only [List.set_cons_zero, hasL]
  rw [← this]
  cases hasI s n <;> cases hasI t n <;> cases hasL a p <;> rfl
 | x :: a, i + 1, [], _, _, _, _ => rfl
 | x :: a, i + 1, n :: p, s, t, hi, h => by
  simp only [List.set_cons_succ, hasL]
  rw [← hasL_set a i p s t (by simpa using hi) (fun n hn => by have := h n (by simp [hn]); simpa [ivAt] using this)]
  cases hasI x n <;> cases hasL (a.set i s) p <;> cases hasL (a.set i t) p <;> rfl
theorem at_wf {b : List Iv} (wb : ∀ x ∈ b, WfIv x) (i : Nat) : WfIv (ivAt b i) := by
 unfold ivAt
 rw [List.getD_eq_getElem?_getD]
 cases h : b[i]? with
 | none => exact noneI_wf
 | some x => exact wb x (List.mem_of_getElem? h)
theorem set_wf {b : List Iv} (wb : ∀ x ∈ b, WfIv x) (i : Nat) {s : Iv} (ws : WfIv s) : ∀ x ∈ b.set i s, WfIv x := fun x hx => by
 rcases List.mem_or_eq_of_mem_set hx with h | rfl
 ·exact wb x h
 ·exact ws
/-- BoxHas -/
theorem law_boxhas (a b : List Iv) (p : List Num) (i : Nat) (h : a.length = b.length) (hi : i < a.length) (wp : ∀ n ∈ p, Wf n) (wa : ∀ x ∈ a, WfIv x) (wb : ∀ x ∈ b, WfIv x) :
  hasL (meetB a b) p = (hasL a p && hasL b p) ∧ hasL a p = (hasL (halfA a i) p || hasL (halfB a i) p) := by
 refine ⟨hasB_meet a b p h wp wa wb, ?_⟩
 have w := split_wf (at_wf wa i)
 unfold halfA halfB
 rw [hasL_fair _ p wp (set_wf wa i w.1), hasL_fair _ p wp (set_wf wa i w.2)]
 exact (hasL_set a i p _ _ hi (fun n hn => has_split (at_wf wa i) (wp n hn))).symm
/-! within -/
theorem within_refl {x : Iv} (wx : WfIv x) : withinI x x = true := (within_iff wx wx).2 (sub_refl _)
theorem withinL_refl : ∀ (a : List Iv), (∀ x ∈ a, WfIv x) → withinL a a = true
 | [], _ => rfl
 | x :: a, wa => by simp only [withinL]; rw [within_refl (wa x (by simp)), withinL_refl a (fun x hx => wa x (by simp [hx]))]; rfl
theorem within_meet {x y : Iv} (wx : WfIv x) (wy : WfIv y) : withinI (meet2 x y) x = true ∧ withinI (meet2 x y) y = true := by
 have w2 := wf2 wx wy
 have hm : ∀ k, mem (code (meetI [x, y])) k ↔ (-TOP ≤ k ∧ k ≤ TOP) ∧ mem (code x) k ∧ mem (code y) k := fun k => by rw [mem_meet _ w2, all2]
 exact ⟨(within_iff (meet_wf _ w2) wx).2 fun k hk => ((hm k).1 hk).2.1, (within_iff (meet_wf _ w2) wy).2 fun k hk => ((hm k).1 hk).2.2⟩
theorem within_hull {x y : Iv} (wx : WfIv x) (wy : WfIv y) : withinI x (hull2 x y) = true ∧ withinI y (hull2 x y) = true := by
 have w2 := wf2 wx wy
 have wh := hull_wf _ w2
 have h0 := (sub_hull _ w2 _ (code_ok wh)).1 (sub_refl _)
 rw [all2] at h0
 exact ⟨(within_iff wx wh).2 h0.1, (within_iff wy wh).2 h0.2⟩
theorem withinL_meet : ∀ (a b : List Iv), a.length = b.length → (∀ x ∈ a, WfIv x) → (∀ x ∈ b, WfIv x) → withinL (List.zipWith meet2 a b) a = true ∧ withinL (List.zipWith meet2 a b) b = true
 | [], [], _, _, _ => ⟨rfl, rfl⟩
 | x :: a, y :: b, h, wa, wb => by
  obtain ⟨h1, h2⟩ := withinL_meet a b (by simpa using h) (fun x hx => wa x (by simp [hx])) (fun x hx => wb x (by simp [hx]))
  obtain ⟨g1, g2⟩ := within_meet (wa x (by simp)) (wb y (by simp))
  simp only [List.zipWith_cons_cons, withinL]
  rw [h1, h2, g1, g2]
  exact ⟨rfl, rfl⟩
theorem withinL_hull : ∀ (a b : List Iv), a.length = b.length → (∀ x ∈ a, WfIv x) → (∀ x ∈ b, WfIv x) → withinL a (List.zipWith hull2 a b) = true ∧ withinL b (List.zipWith hull2 a b) = true
 | [], [], _, _, _ => ⟨rfl, rfl⟩
 | x :: a, y :: b, h, wa, wb => by
  obtain ⟨h1, h2⟩ := withinL_hull a b (by simpa using h) (fun x hx => wa x (by simp [hx])) (fun x hx => wb x (by simp [hx]))
  obtain ⟨g1, g2⟩ := within_hull (wa x (by simp)) (wb y (by simp))
  simp only [List.zipWith_cons_cons, withinL]
  rw [h1, h2, g1, g2]
  exact ⟨rfl, rfl⟩
theorem withinL_set : ∀ (a : List Iv) (i : Nat) (s : Iv), (∀ x ∈ a, WfIv x) → (i < a.length → withinI s (ivAt a i) = true) → withinL (a.set i s) a = true
 | [], _, _, _, _ => rfl
 | x :: a, 0, s, wa, h => by
  have := h (by simp)
  simp only [ivAt, List.getD_cons_zero] at this
  simp only [List.set_cons_zero, withinL]
  rw [this, withinL_refl a (fun x hx => wa x (by simp [hx]))]
  rfl
 | x :: a, i + 1, s, wa, h => by
  simp only [List.set_cons_succ, withinL]
  rw [within_refl (wa x (by simp)), withinL_set a i s (fun x hx => wa x (by simp [hx])) (fun hi => by have := h (by simpa using hi); simpa [ivAt] using this)]
  rfl
theorem withinL_halves : ∀ (a : List Iv) (i : Nat) (s t : Iv), (∀ x ∈ a, WfIv x) → (i < a.length → withinI (ivAt a i) (hull2 s t) = true) → withinL a (List.zipWith hull2 (a.set i s) (a.set i t)) = true
 | [], _, _, _, _, _ => rfl
 | x :: a, 0, s, t, wa, h => by
  have := h (by simp)
  simp only [ivAt, List.getD_cons_zero] at this
  have wa' : ∀ x ∈ a, WfIv x := fun x hx => wa x (by simp [hx])
  simp only [List.set_cons_zero, List.zipWith_cons_cons, withinL]
  rw [this, (withinL_hull a a rfl wa' wa').1]
  rfl
 | x :: a, i + 1, s, t, wa, h => by
  have wa' : ∀ x ∈ a, WfIv x := fun x hx => wa x (by simp [hx])
  simp only [List.set_cons_succ, List.zipWith_cons_cons, withinL]
  rw [(within_hull (wa x (by simp)) (wa x (by simp))).1, withinL_halves a i s t wa' (fun hi => by have := h (by simpa using hi); simpa [ivAt] using this)]
  rfl
theorem within_split {x : Iv} (wx : WfIv x) : withinI (splitA x) x = true ∧ withinI (splitB x) x = true := by
 have w := split_wf wx
 rw [within_iff w.1 wx, within_iff w.2 wx]
 by_cases f : Full x
 ·obtain ⟨h1, h2, f1, f2⟩ := split_spec wx f
  obtain ⟨m1, m2, m3, m4, m5, m6⟩ := mid_spec wx f
  rw [h1, h2]
  refine ⟨fun k hk => ?_, fun k hk => ?_⟩
  ·rw [mem_code] at hk ⊢
   simp only at hk
   exact ⟨f, hk.2.1, by omega⟩
  ·rw [mem_code] at hk ⊢
   simp only at hk
   exact ⟨f, by omega, hk.2.2⟩
 ·obtain ⟨h1, h2⟩ := split_none f
  rw [h1, h2, code_noneI]
  exact ⟨fun k hk => absurd hk id, fun k hk => absurd hk id⟩
theorem withinB_of {a b : List Iv} (h : a.length = b.length) (hw : emptyB a = false → withinL a b = true) : withinB a b = true := by
 unfold withinB
 rw [decide_eq_true h, Bool.true_and]
 cases he : emptyB a
 ·rw [hw he]; rfl
 ·rfl
theorem meetB_len {a b : List Iv} (h : a.length = b.length) : (meetB a b).length = a.length := by
 unfold meetB
 rw [if_pos h, fairB_len, List.length_zipWith]; omega
theorem hullB_len {a b : List Iv} (h : a.length = b.length) : (hullB a b).length = a.length := by
 unfold hullB
 rw [if_pos h]
 split
 ·rw [fairB_len]; omega
 ·split
  ·rw [fairB_len]
  ·rw [List.length_zipWith]; omega
theorem fairB_empty {b : List Iv} (h : emptyB (fairB b) = false) : fairB b = b := by
 cases he : emptyB b
 ·exact fairB_full he
 ·exfalso
  unfold fairB at h
  rw [if_pos he] at h
  cases b with
  | nil => simp [emptyB] at he
  | cons x b => simp [emptyB, List.replicate_succ, noneB, noneI] at h
theorem halfA_len (b : List Iv) (i : Nat) : (halfA b i).length = b.length := by unfold halfA; rw [fairB_len, List.length_set]
theorem halfB_len (b : List Iv) (i : Nat) : (halfB b i).length = b.length := by unfold halfB; rw [fairB_len, List.length_set]
theorem at_full {b : List Iv} (h : emptyB b = false) {i : Nat} (hi : i < b.length) : Full (ivAt b i) := by
 unfold ivAt
 rw [List.getD_eq_getElem?_getD, List.getElem?_eq_getElem hi]
 exact (emptyB_full b).1 h _ (List.getElem_mem hi)
theorem set_full {b : List Iv} (h : emptyB b = false) (i : Nat) {s : Iv} (hs : Full s) : emptyB (b.set i s) = false := by
 rw [emptyB_full] at h ⊢
 intro x hx
 rcases List.mem_or_eq_of_mem_set hx with g | rfl
 ·exact h x g
 ·exact hs
/-- the halves of a box none of whose intervals is empty -/
theorem half_full {b : List Iv} (wb : ∀ x ∈ b, WfIv x) (h : emptyB b = false) {i : Nat} (hi : i < b.length) :
  halfA b i = b.set i (splitA (ivAt b i)) ∧ halfB b i = b.set i (splitB (ivAt b i)) ∧ emptyB (b.set i (splitA (ivAt b i))) = false ∧ emptyB (b.set i (splitB (ivAt b i))) = false := by
 have f := at_full h hi
 obtain ⟨h1, h2, f1, f2⟩ := split_spec (at_wf wb i) f
 have e1 := set_full h i (s := splitA (ivAt b i)) (by rw [h1]; exact f1)
 have e2 := set_full h i (s := splitB (ivAt b i)) (by rw [h2]; exact f2)
 exact ⟨fairB_full e1, fairB_full e2, e1, e2⟩
/-- BoxOrder -/
theorem law_boxorder (a b : List Iv) (i : Nat) (h : a.length = b.length) (hi : i < a.length) (wa : ∀ x ∈ a, WfIv x) (wb : ∀ x ∈ b, WfIv x) :
  withinB (meetB a b) a = true ∧ withinB (meetB a b) b = true ∧ withinB a (hullB a b) = true ∧ withinB b (hullB a b) = true ∧ withinB (halfA a i) a = true ∧ withinB (halfB a i) a = true ∧ withinB a (hullB (halfA a i) (halfB a i)) = true := by
 have hm := withinL_meet a b h wa wb
 have hh := withinL_hull a b h wa wb
 have hs := within_split (at_wf wa i)
 refine ⟨withinB_of (meetB_len h) fun he => ?_, withinB_of (by rw [meetB_len h, h]) fun he => ?_, withinB_of (hullB_len h).symm fun he => ?_, withinB_of (by rw [hullB_len h, h]) fun he => ?_, withinB_of (halfA_len a i) fun he => ?_, withinB_of (halfB_len a i) fun he => ?_, withinB_of (by rw [hullB_len (by rw [halfA_len, halfB_len]), halfA_len]) fun he => ?_⟩
 ·unfold meetB at he ⊢
  rw [if_pos h] at he ⊢
  rw [fairB_empty he]; exact hm.1
 ·unfold meetB at he ⊢
  rw [if_pos h] at he ⊢
  rw [fairB_empty he]; exact hm.2
 ·unfold hullB
  rw [if_pos h, if_neg (by simp [he])]
  split
  ·rw [fairB_full he]; exact withinL_refl a wa
  ·exact hh.1
 ·unfold hullB
  rw [if_pos h]
  split
  ·rw [fairB_full he]; exact withinL_refl b wb
  ·rw [if_neg (by simp [he])]; exact hh.2
 ·unfold halfA at he ⊢
  rw [fairB_empty he]
  exact withinL_set a i _ wa fun _ => hs.1
 ·unfold halfB at he ⊢
  rw [fairB_empty he]
  exact withinL_set a i _ wa fun _ => hs.2
 ·obtain ⟨e1, e2, f1, f2⟩ := half_full wa he hi
  unfold hullB
  rw [e1, e2, if_pos (by simp), if_neg (by simp [f1]), if_neg (by simp [f2])]
  refine withinL_halves a i _ _ wa fun _ => ?_
  have f := at_full he hi
  have := (law_halves (ivAt a i) f.1 f.2 (at_wf wa i)).2.2.2.1
  unfold hull2
  rw [this]
  exact within_refl (at_wf wa i)
theorem bestN_lt (b : List Iv) : ∀ k, bestN b k ≤ k ∧ (0 < k → bestN b k < k)
 | 0 => ⟨Nat.le_refl _, fun h => absurd h (by omega)⟩
 | k + 1 => by
  have := bestN_lt b k
  unfold bestN
  split <;> refine ⟨by omega, fun _ => by omega⟩
/-- BoxHalves -/
theorem law_boxhalves (b : List Iv) (wb : ∀ x ∈ b, WfIv x) (i : Nat) (hi : widestB b = i) : i < b.length ∧ (halfA b i).length = b.length ∧ (halfB b i).length = b.length ∧ (ivAt (halfA b i) i).hi = midI (ivAt b i) ∧ (ivAt (halfB b i) i).lo = midI (ivAt b i) ∧
  (∀ k, k ≠ i → ivAt (halfA b i) k = ivAt b k ∧ ivAt (halfB b i) k = ivAt b k) ∧ withinI (ivAt (halfA b i) i) (ivAt b i) = true ∧ withinI (ivAt (halfB b i) i) (ivAt b i) = true ∧ hullI [ivAt (halfA b i) i, ivAt (halfB b i) i] = ivAt b i := by
 unfold widestB at hi
 by_cases h : emptyB b = true ∨ b.length = 0
 ·rw [if_pos h] at hi; omega
 ·rw [if_neg h] at hi
  have he : emptyB b = false := by cases g : emptyB b; rfl; exact absurd (.inl g) h
  have h0 : 0 < b.length := by
   rcases Nat.eq_zero_or_pos b.length with g | g
   ·exact absurd (.inr g) h
   ·exact g
  have hb := (bestN_lt b b.length).2 h0
  have hi' : i < b.length := by omega
  clear hi hb
  obtain ⟨e1, e2, f1, f2⟩ := half_full wb he hi'
  have f := at_full he hi'
  obtain ⟨s1, s2, _, _⟩ := split_spec (at_wf wb i) f
  have l := law_halves (ivAt b i) f.1 f.2 (at_wf wb i)
  have hs := within_split (at_wf wb i)
  have g1 : ∀ s : Iv, ivAt (b.set i s) i = s := fun s => by
   unfold ivAt
   rw [List.getD_eq_getElem?_getD, List.getElem?_set_self hi']; rfl
  have g2 : ∀ (s : Iv) k, k ≠ i → ivAt (b.set i s) k = ivAt b k := fun s k hk => by
   unfold ivAt
   rw [List.getD_eq_getElem?_getD, List.getElem?_set_ne (Ne.symm hk), List.getD_eq_getElem?_getD]
  rw [e1, e2, g1, g1]
  refine ⟨hi', by simp, by simp, by rw [s1], by rw [s2], fun k hk => ⟨g2 _ k hk, g2 _ k hk⟩, hs.1, hs.2, l.2.2.2.1⟩
theorem widest_neg (b : List Iv) (h : widestB b < 0) : (emptyB b || decide (b.length = 0)) = true := by
 unfold widestB at h
 split at h
 ·next g => rcases g with g | g <;> simp [g]
 ·omega
theorem half_wf {b : List Iv} (wb : ∀ x ∈ b, WfIv x) (i : Nat) : (∀ x ∈ halfA b i, WfIv x) ∧ (∀ x ∈ halfB b i, WfIv x) := by
 have w := split_wf (at_wf wb i)
 have g : ∀ l : List Iv, (∀ x ∈ l, WfIv x) → ∀ x ∈ fairB l, WfIv x := fun l hl x hx => by
  unfold fairB at hx
  split at hx
  ·rw [(List.mem_replicate.1 hx).2]; exact noneI_wf
  ·exact hl x hx
 exact ⟨g _ (set_wf wb i w.1), g _ (set_wf wb i w.2)⟩
end Go.Proofs.Pl
