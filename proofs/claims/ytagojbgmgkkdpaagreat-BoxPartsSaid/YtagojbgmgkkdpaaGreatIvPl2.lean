/- Plain laws of meets and hulls. Nothing of Go. -/
import Derived.Test.YtagojbgmgkkdpaaGreatIvPl
namespace Go.Proofs.Pl
set_option linter.unusedSimpArgs false
set_option linter.unusedVariables false

theorem K_of {x : Num} (h : mayN x = true) : K x = key x := by unfold K; rw [fairN_of h]
theorem K_bd {x : Num} (w : Wf x) : -TOP ≤ K x ∧ K x ≤ TOP := key_bd (mayN_fair x) (fairN_wf w)
theorem most_fold (xs : List Num) : ∀ (o : Num), mayN o = true → Wf o → (∀ x ∈ xs, Wf x) →
  mayN (xs.foldl mostStep o) = true ∧ Wf (xs.foldl mostStep o) ∧ key o ≤ key (xs.foldl mostStep o) ∧ (∀ x ∈ xs, K x ≤ key (xs.foldl mostStep o)) ∧ (∀ B, key o ≤ B → (∀ x ∈ xs, K x ≤ B) → key (xs.foldl mostStep o) ≤ B) := by
 induction xs with
 | nil => intro o ho wo _; exact ⟨ho, wo, Int.le_refl _, fun x hx => by simp at hx, fun B h _ => h⟩
 | cons a l ih =>
  intro o ho wo hw
  have wa : Wf a := hw a (by simp)
  have hs : mayN (mostStep o a) = true ∧ Wf (mostStep o a) ∧ key o ≤ key (mostStep o a) ∧ K a ≤ key (mostStep o a) ∧ (∀ B, key o ≤ B → K a ≤ B → key (mostStep o a) ≤ B) := by
   unfold mostStep
   by_cases h : 0 < cmpN a o
   ·rw [if_pos h]
    rw [cmp_gt wa wo, K_of ho] at h
    exact ⟨mayN_fair a, fairN_wf wa, by unfold K at h; omega, Int.le_refl _, fun B _ h2 => h2⟩
   ·rw [if_neg h]
    rw [cmp_gt wa wo, K_of ho] at h
    exact ⟨ho, wo, Int.le_refl _, by omega, fun B h1 _ => h1⟩
  obtain ⟨h1, h2, h3, h4, h5⟩ := hs
  obtain ⟨g1, g2, g3, g4, g5⟩ := ih (mostStep o a) h1 h2 (fun x hx => hw x (by simp [hx]))
  simp only [List.foldl_cons]
  refine ⟨g1, g2, by omega, ?_, fun B hB hx => g5 B (h5 B hB (hx a (by simp))) (fun x h => hx x (by simp [h]))⟩
  intro x hx
  rcases List.mem_cons.1 hx with rfl | hx
  ·omega
  ·exact g4 x hx
theorem least_fold (xs : List Num) : ∀ (o : Num), mayN o = true → Wf o → (∀ x ∈ xs, Wf x) →
  mayN (xs.foldl leastStep o) = true ∧ Wf (xs.foldl leastStep o) ∧ key (xs.foldl leastStep o) ≤ key o ∧ (∀ x ∈ xs, key (xs.foldl leastStep o) ≤ K x) ∧ (∀ B, B ≤ key o → (∀ x ∈ xs, B ≤ K x) → B ≤ key (xs.foldl leastStep o)) := by
 induction xs with
 | nil => intro o ho wo _; exact ⟨ho, wo, Int.le_refl _, fun x hx => by simp at hx, fun B h _ => h⟩
 | cons a l ih =>
  intro o ho wo hw
  have wa : Wf a := hw a (by simp)
  have hs : mayN (leastStep o a) = true ∧ Wf (leastStep o a) ∧ key (leastStep o a) ≤ key o ∧ key (leastStep o a) ≤ K a ∧ (∀ B, B ≤ key o → B ≤ K a → B ≤ key (leastStep o a)) := by
   unfold leastStep
   by_cases h : cmpN a o < 0
   ·rw [if_pos h]
    rw [cmp_lt wa wo, K_of ho] at h
    exact ⟨mayN_fair a, fairN_wf wa, by unfold K at h; omega, Int.le_refl _, fun B _ h2 => h2⟩
   ·rw [if_neg h]
    rw [cmp_lt wa wo, K_of ho] at h
    exact ⟨ho, wo, Int.le_refl _, by omega, fun B h1 _ => h1⟩
  obtain ⟨h1, h2, h3, h4, h5⟩ := hs
  obtain ⟨g1, g2, g3, g4, g5⟩ := ih (leastStep o a) h1 h2 (fun x hx => hw x (by simp [hx]))
  simp only [List.foldl_cons]
  refine ⟨g1, g2, by omega, ?_, fun B hB hx => g5 B (h5 B hB (hx a (by simp))) (fun x h => hx x (by simp [h]))⟩
  intro x hx
  rcases List.mem_cons.1 hx with rfl | hx
  ·omega
  ·exact g4 x hx
theorem mem_fulls (l : List Iv) (y : Iv) : y ∈ fulls l ↔ y ∈ l ∧ Full y := by
 unfold fulls
 rw [List.mem_filter, List.mem_map]
 constructor
 ·rintro ⟨⟨x, hx, rfl⟩, he⟩
  rcases fairI_cases x with ⟨h, e⟩ | ⟨h, e⟩
  ·rw [e]; exact ⟨hx, h⟩
  ·rw [e] at he; simp [noneI] at he
 ·rintro ⟨hy, h⟩
  exact ⟨⟨y, hy, fairI_of h⟩, by simp [h.2]⟩
theorem endsAll_iff (l : List Iv) : endsAll l = true ↔ ∀ x ∈ l, Full x := by
 unfold endsAll
 rw [List.all_eq_true]
 simp only [List.mem_map, forall_exists_index, and_imp, forall_apply_eq_imp_iff₂, Bool.not_eq_true']
 exact ⟨fun h x hx => (fairI_emp x).1 (h x hx), fun h x hx => (fairI_emp x).2 (h x hx)⟩
/-- the lower ends' greatest, the upper ends' least, of those that are full -/
theorem ends_bd (l : List Iv) (hw : ∀ x ∈ l, WfIv x) :
  (mayN (mostN ((fulls l).map (·.lo))) = true ∧ Wf (mostN ((fulls l).map (·.lo))) ∧ (∀ x ∈ l, Full x → key x.lo ≤ key (mostN ((fulls l).map (·.lo)))) ∧ (∀ B, -TOP ≤ B → (∀ x ∈ l, Full x → key x.lo ≤ B) → key (mostN ((fulls l).map (·.lo))) ≤ B)) ∧
  (mayN (mostN ((fulls l).map (·.hi))) = true ∧ Wf (mostN ((fulls l).map (·.hi))) ∧ (∀ x ∈ l, Full x → key x.hi ≤ key (mostN ((fulls l).map (·.hi)))) ∧ (∀ B, -TOP ≤ B → (∀ x ∈ l, Full x → key x.hi ≤ B) → key (mostN ((fulls l).map (·.hi))) ≤ B)) ∧
  (mayN (leastN ((fulls l).map (·.lo))) = true ∧ Wf (leastN ((fulls l).map (·.lo))) ∧ (∀ x ∈ l, Full x → key (leastN ((fulls l).map (·.lo))) ≤ key x.lo) ∧ (∀ B, B ≤ TOP → (∀ x ∈ l, Full x → B ≤ key x.lo) → B ≤ key (leastN ((fulls l).map (·.lo))))) ∧
  (mayN (leastN ((fulls l).map (·.hi))) = true ∧ Wf (leastN ((fulls l).map (·.hi))) ∧ (∀ x ∈ l, Full x → key (leastN ((fulls l).map (·.hi))) ≤ key x.hi) ∧ (∀ B, B ≤ TOP → (∀ x ∈ l, Full x → B ≤ key x.hi) → B ≤ key (leastN ((fulls l).map (·.hi))))) := by
 have wl : ∀ x ∈ (fulls l).map (·.lo), Wf x := fun x hx => by
  obtain ⟨y, hy, rfl⟩ := List.mem_map.1 hx
  exact (hw y ((mem_fulls l y).1 hy).1).1
 have wh : ∀ x ∈ (fulls l).map (·.hi), Wf x := fun x hx => by
  obtain ⟨y, hy, rfl⟩ := List.mem_map.1 hx
  exact (hw y ((mem_fulls l y).1 hy).1).2
 have kl : ∀ x ∈ l, Full x → K x.lo = key x.lo ∧ K x.hi = key x.hi := fun x hx h => by
  have := (full_iff (hw x hx)).1 h
  exact ⟨K_of this.2.1, K_of this.2.2.1⟩
 have ml : ∀ x ∈ l, Full x → x.lo ∈ (fulls l).map (·.lo) := fun x hx h => List.mem_map.2 ⟨x, (mem_fulls l x).2 ⟨hx, h⟩, rfl⟩
 have mh : ∀ x ∈ l, Full x → x.hi ∈ (fulls l).map (·.hi) := fun x hx h => List.mem_map.2 ⟨x, (mem_fulls l x).2 ⟨hx, h⟩, rfl⟩
 have el : ∀ (P : Num → Prop), (∀ x ∈ l, Full x → P x.lo) → ∀ z ∈ (fulls l).map (·.lo), P z := fun P h z hz => by
  obtain ⟨y, hy, rfl⟩ := List.mem_map.1 hz
  exact h y ((mem_fulls l y).1 hy).1 ((mem_fulls l y).1 hy).2
 have eh : ∀ (P : Num → Prop), (∀ x ∈ l, Full x → P x.hi) → ∀ z ∈ (fulls l).map (·.hi), P z := fun P h z hz => by
  obtain ⟨y, hy, rfl⟩ := List.mem_map.1 hz
  exact h y ((mem_fulls l y).1 hy).1 ((mem_fulls l y).1 hy).2
 have kt : key (infN true) = -TOP := by rw [key_inf]; rfl
 have kf : key (infN false) = TOP := by rw [key_inf]; rfl
 refine ⟨?_, ?_, ?_, ?_⟩
 ·obtain ⟨h1, h2, h3, h4, h5⟩ := most_fold _ (infN true) (may_inf true) (wf_inf true) wl
  exact ⟨h1, h2, fun x hx h => by rw [← (kl x hx h).1]; exact h4 _ (ml x hx h), fun B hB h => h5 B (by omega) (el (fun z => K z ≤ B) (fun x hx hf => by rw [(kl x hx hf).1]; exact h x hx hf))⟩
 ·obtain ⟨h1, h2, h3, h4, h5⟩ := most_fold _ (infN true) (may_inf true) (wf_inf true) wh
  exact ⟨h1, h2, fun x hx h => by rw [← (kl x hx h).2]; exact h4 _ (mh x hx h), fun B hB h => h5 B (by omega) (eh (fun z => K z ≤ B) (fun x hx hf => by rw [(kl x hx hf).2]; exact h x hx hf))⟩
 ·obtain ⟨h1, h2, h3, h4, h5⟩ := least_fold _ (infN false) (may_inf false) (wf_inf false) wl
  exact ⟨h1, h2, fun x hx h => by rw [← (kl x hx h).1]; exact h4 _ (ml x hx h), fun B hB h => h5 B (by omega) (el (fun z => B ≤ K z) (fun x hx hf => by rw [(kl x hx hf).1]; exact h x hx hf))⟩
 ·obtain ⟨h1, h2, h3, h4, h5⟩ := least_fold _ (infN false) (may_inf false) (wf_inf false) wh
  exact ⟨h1, h2, fun x hx h => by rw [← (kl x hx h).2]; exact h4 _ (mh x hx h), fun B hB h => h5 B (by omega) (eh (fun z => B ≤ K z) (fun x hx hf => by rw [(kl x hx hf).2]; exact h x hx hf))⟩
theorem make_full {a b : Num} (ha : mayN a = true) (hb : mayN b = true) (wa : Wf a) (wb : Wf b) (h : key a ≤ key b ∧ key a < TOP ∧ -TOP < key b) : makeI a b = ⟨false, a, b⟩ ∧ Full ⟨false, a, b⟩ := by
 have hf : Full (⟨false, a, b⟩ : Iv) := (full_iff (x := ⟨false, a, b⟩) ⟨wa, wb⟩).2 ⟨rfl, ha, hb, h⟩
 rw [makeI_eq, fairN_of ha, fairN_of hb, fairI_of hf]
 exact ⟨rfl, hf⟩
theorem make_none {a b : Num} (ha : mayN a = true) (hb : mayN b = true) (wa : Wf a) (wb : Wf b) (h : ¬ (key a ≤ key b ∧ key a < TOP ∧ -TOP < key b)) : makeI a b = noneI := by
 rw [makeI_eq, fairN_of ha, fairN_of hb]
 rcases fairI_cases ⟨false, a, b⟩ with ⟨hf, _⟩ | ⟨_, e⟩
 ·exact absurd ((full_iff (x := ⟨false, a, b⟩) ⟨wa, wb⟩).1 hf).2.2.2 h
 ·exact e
theorem none_not_full : ¬ Full noneI := fun h => by simp [Full, noneI] at h
theorem make_wf {a b : Num} (wa : Wf a) (wb : Wf b) : WfIv (makeI a b) := by rw [makeI_eq]; exact fairI_wf ⟨fairN_wf wa, fairN_wf wb⟩
theorem meet_wf (l : List Iv) (hw : ∀ x ∈ l, WfIv x) : WfIv (meetI l) := by
 unfold meetI
 obtain ⟨h1, h2, h3, h4⟩ := ends_bd l hw
 split
 ·exact make_wf h1.2.1 h4.2.1
 ·exact noneI_wf
theorem hull_wf (l : List Iv) (hw : ∀ x ∈ l, WfIv x) : WfIv (hullI l) := by
 unfold hullI
 obtain ⟨h1, h2, h3, h4⟩ := ends_bd l hw
 split
 ·exact noneI_wf
 ·exact make_wf h3.2.1 h2.2.1
/-- what a meet is -/
theorem meet_full (l : List Iv) (hw : ∀ x ∈ l, WfIv x) (hf : ∀ x ∈ l, Full x) (hk : ∀ x ∈ l, ∀ y ∈ l, key x.lo ≤ key y.hi) :
  Full (meetI l) ∧ (∀ x ∈ l, key x.lo ≤ key (meetI l).lo) ∧ (∀ B, -TOP ≤ B → (∀ x ∈ l, key x.lo ≤ B) → key (meetI l).lo ≤ B) ∧ (∀ x ∈ l, key (meetI l).hi ≤ key x.hi) ∧ (∀ B, B ≤ TOP → (∀ x ∈ l, B ≤ key x.hi) → B ≤ key (meetI l).hi) := by
 obtain ⟨h1, h2, h3, h4⟩ := ends_bd l hw
 have ht : (0 : Int) < TOP := by decide +kernel
 have hb : ∀ x ∈ l, key x.lo < TOP ∧ -TOP < key x.hi := fun x hx => ((full_iff (hw x hx)).1 (hf x hx)).2.2.2.2
 have hlo : ∀ x ∈ l, -TOP ≤ key x.hi ∧ key x.lo ≤ TOP := fun x hx => by have := hb x hx; omega
 have e1 : key (mostN ((fulls l).map (·.lo))) ≤ TOP - 1 := h1.2.2.2 _ (by omega) (fun x hx _ => by have := (hb x hx).1; omega)
 have e2 : -TOP + 1 ≤ key (leastN ((fulls l).map (·.hi))) := h4.2.2.2 _ (by omega) (fun x hx _ => by have := (hb x hx).2; omega)
 have e3 : key (mostN ((fulls l).map (·.lo))) ≤ key (leastN ((fulls l).map (·.hi))) :=
  h4.2.2.2 _ (by omega) (fun y hy _ => h1.2.2.2 _ (by have := hb y hy; omega) (fun x hx _ => hk x hx y hy))
 obtain ⟨em, ef⟩ := make_full h1.1 h4.1 h1.2.1 h4.2.1 ⟨e3, by omega, by omega⟩
 have e : meetI l = ⟨false, mostN ((fulls l).map (·.lo)), leastN ((fulls l).map (·.hi))⟩ := by
  unfold meetI
  rw [if_pos ((endsAll_iff l).2 hf), em]
 rw [e]
 exact ⟨ef, fun x hx => h1.2.2.1 x hx (hf x hx), fun B hB h => h1.2.2.2 B hB (fun x hx _ => h x hx), fun x hx => h4.2.2.1 x hx (hf x hx), fun B hB h => h4.2.2.2 B hB (fun x hx _ => h x hx)⟩
theorem meet_none (l : List Iv) (hw : ∀ x ∈ l, WfIv x) (h : ¬ ((∀ x ∈ l, Full x) ∧ ∀ x ∈ l, ∀ y ∈ l, key x.lo ≤ key y.hi)) : meetI l = noneI := by
 obtain ⟨h1, h2, h3, h4⟩ := ends_bd l hw
 unfold meetI
 by_cases hf : ∀ x ∈ l, Full x
 ·rw [if_pos ((endsAll_iff l).2 hf)]
  refine make_none h1.1 h4.1 h1.2.1 h4.2.1 (fun hh => h ⟨hf, fun x hx y hy => ?_⟩)
  have g1 := h1.2.2.1 x hx (hf x hx)
  have g2 := h4.2.2.1 y hy (hf y hy)
  omega
 ·rw [if_neg (fun hh => hf ((endsAll_iff l).1 hh))]
theorem hull_full (l : List Iv) (hw : ∀ x ∈ l, WfIv x) (hf : ∃ x ∈ l, Full x) :
  Full (hullI l) ∧ (∀ x ∈ l, Full x → key (hullI l).lo ≤ key x.lo ∧ key x.hi ≤ key (hullI l).hi) ∧ (∀ B, B ≤ TOP → (∀ x ∈ l, Full x → B ≤ key x.lo) → B ≤ key (hullI l).lo) ∧ (∀ B, -TOP ≤ B → (∀ x ∈ l, Full x → key x.hi ≤ B) → key (hullI l).hi ≤ B) := by
 obtain ⟨h1, h2, h3, h4⟩ := ends_bd l hw
 obtain ⟨x, hx, fx⟩ := hf
 have g := (full_iff (hw x hx)).1 fx
 have g1 := h3.2.2.1 x hx fx
 have g2 := h2.2.2.1 x hx fx
 obtain ⟨em, ef⟩ := make_full h3.1 h2.1 h3.2.1 h2.2.1 (by omega)
 have hne : fulls l ≠ [] := List.ne_nil_of_mem ((mem_fulls l x).2 ⟨hx, fx⟩)
 have e : hullI l = ⟨false, leastN ((fulls l).map (·.lo)), mostN ((fulls l).map (·.hi))⟩ := by
  unfold hullI
  rw [if_neg hne, em]
 rw [e]
 exact ⟨ef, fun y hy fy => ⟨h3.2.2.1 y hy fy, h2.2.2.1 y hy fy⟩, fun B hB h => h3.2.2.2 B hB h, fun B hB h => h2.2.2.2 B hB h⟩
theorem hull_none (l : List Iv) (h : ¬ ∃ x ∈ l, Full x) : hullI l = noneI := by
 unfold hullI
 have : fulls l = [] := List.eq_nil_iff_forall_not_mem.2 fun x hx => h ⟨x, ((mem_fulls l x).1 hx).1, ((mem_fulls l x).1 hx).2⟩
 rw [if_pos this]
theorem has_meet (l : List Iv) (n : Num) (hw : ∀ x ∈ l, WfIv x) (wn : Wf n) : hasI (meetI l) n = true ↔ Fin n ∧ ∀ x ∈ l, hasI x n = true := by
 constructor
 ·intro h
  obtain ⟨f, fin, h1, h2⟩ := (has_iff (meet_wf l hw) wn).1 h
  refine ⟨fin, fun x hx => ?_⟩
  by_cases hc : (∀ x ∈ l, Full x) ∧ ∀ x ∈ l, ∀ y ∈ l, key x.lo ≤ key y.hi
  ·obtain ⟨_, g1, _, g2, _⟩ := meet_full l hw hc.1 hc.2
   have := g1 x hx
   have := g2 x hx
   exact (has_iff (hw x hx) wn).2 ⟨hc.1 x hx, fin, by omega, by omega⟩
  ·rw [meet_none l hw hc] at f
   exact absurd f none_not_full
 ·rintro ⟨fin, h⟩
  have hh := fun x hx => (has_iff (hw x hx) wn).1 (h x hx)
  obtain ⟨g0, _, g1, _, g2⟩ := meet_full l hw (fun x hx => (hh x hx).1) (fun x hx y hy => by have := hh x hx; have := hh y hy; omega)
  have b := K_bd wn
  exact (has_iff (meet_wf l hw) wn).2 ⟨g0, fin, g1 _ b.1 (fun x hx => (hh x hx).2.2.1), g2 _ b.2 (fun x hx => (hh x hx).2.2.2)⟩
theorem has_hull (l : List Iv) (n : Num) (hw : ∀ x ∈ l, WfIv x) (wn : Wf n) (x : Iv) (hx : x ∈ l) (h : hasI x n = true) : hasI (hullI l) n = true := by
 obtain ⟨f, fin, h1, h2⟩ := (has_iff (hw x hx) wn).1 h
 obtain ⟨g0, g1, _⟩ := hull_full l hw ⟨x, hx, f⟩
 have := g1 x hx f
 exact (has_iff (hull_wf l hw) wn).2 ⟨g0, fin, by omega, by omega⟩
theorem has_fin {x : Iv} {n : Num} (wx : WfIv x) (wn : Wf n) (h : hasI x n = true) : Fin n := ((has_iff wx wn).1 h).2.1

/-- IvHas -/
theorem law_has (a b : Iv) (n : Num) (wa : WfIv a) (wb : WfIv b) (wn : Wf n) :
  hasI (meetI [a, b]) n = (hasI a n && hasI b n) ∧ (hasI a n = true ∨ hasI b n = true → hasI (hullI [a, b]) n = true) := by
 have hw : ∀ x ∈ [a, b], WfIv x := fun x hx => by
  rcases List.mem_cons.1 hx with rfl | hx
  ·exact wa
  ·rw [List.mem_singleton.1 hx]; exact wb
 refine ⟨?_, fun h => ?_⟩
 ·rw [Bool.eq_iff_iff, has_meet _ _ hw wn, Bool.and_eq_true]
  constructor
  ·rintro ⟨_, h⟩; exact ⟨h a (by simp), h b (by simp)⟩
  ·rintro ⟨h1, h2⟩
   refine ⟨has_fin wa wn h1, fun x hx => ?_⟩
   rcases List.mem_cons.1 hx with rfl | hx
   ·exact h1
   ·rw [List.mem_singleton.1 hx]; exact h2
 ·rcases h with h | h
  ·exact has_hull _ _ hw wn a (by simp) h
  ·exact has_hull _ _ hw wn b (by simp) h
end Go.Proofs.Pl
