/- Plain law of IvSets: the reference's Two and Both are meetI and hullI of two; the folds of these are meetI and hullI. -/
import Derived.Test.YtagojbgmgkkdpaaGreatIvPl3
namespace Go.Proofs.Pl
set_option linter.unusedVariables false
set_option linter.unusedSimpArgs false

def twoI (x y : Iv) : Iv := if ((fairI x).emp || (fairI y).emp) = true then noneI else makeI (mostN [(fairI x).lo, (fairI y).lo]) (leastN [(fairI x).hi, (fairI y).hi])
def bothI (x y : Iv) : Iv := if (fairI x).emp = true then fairI y else if (fairI y).emp = true then fairI x else makeI (leastN [(fairI x).lo, (fairI y).lo]) (mostN [(fairI x).hi, (fairI y).hi])
theorem two_eq (x y : Iv) : twoI x y = meetI [x, y] := by
 unfold twoI meetI endsAll fulls
 cases hx : (fairI x).emp <;> cases hy : (fairI y).emp <;> simp [hx, hy]
theorem fair_none {x : Iv} (h : (fairI x).emp = true) : ¬ Full x := fun f => by
 have := (fairI_emp x).2 f
 rw [h] at this
 cases this
theorem both_eq {x y : Iv} (wx : WfIv x) (wy : WfIv y) : bothI x y = hullI [x, y] := by
 unfold bothI
 cases hx : (fairI x).emp
 ·cases hy : (fairI y).emp
  ·unfold hullI fulls
   simp [hx, hy]
  ·have fy := fair_none hy
   have fx := (fairI_emp x).1 hx
   rw [fairI_of fx, if_neg (by simp), if_pos rfl]
   exact (eq_hull _ (wf2 wx wy) fx.1 wx fun c oc => by
    rw [all2]
    exact ⟨fun h => ⟨h, fun k hk => absurd (mem_code.1 hk).1 fy⟩, fun h => h.1⟩).symm
 ·have fx := fair_none hx
  rw [if_pos rfl]
  by_cases fy : Full y
  ·rw [fairI_of fy]
   exact (eq_hull _ (wf2 wx wy) fy.1 wy fun c oc => by
    rw [all2]
    exact ⟨fun h => ⟨fun k hk => absurd (mem_code.1 hk).1 fx, h⟩, fun h => h.2⟩).symm
  ·have e : fairI y = noneI := by
    rcases fairI_cases y with ⟨f, _⟩ | ⟨_, e⟩
    ·exact absurd f fy
    ·exact e
   rw [e]
   exact (hull_none _ (by simp [fx, fy])).symm
def foldTwo (l : List Iv) : Iv := l.foldl twoI allI
def foldBoth (l : List Iv) : Iv := l.foldl bothI noneI
theorem all_wf : WfIv allI := ⟨wf_inf _, wf_inf _⟩
theorem all_full : Full allI := by
 refine (full_iff all_wf).2 ⟨rfl, may_inf _, may_inf _, ?_⟩
 have e1 : key allI.lo = -TOP := by decide +kernel
 have e2 : key allI.hi = TOP := by decide +kernel
 have ht : (0 : Int) < TOP := by decide +kernel
 omega
theorem mem_all (k : Int) : mem (code allI) k ↔ -TOP ≤ k ∧ k ≤ TOP := by
 rw [mem_code]
 have e1 : key allI.lo = -TOP := by decide +kernel
 have e2 : key allI.hi = TOP := by decide +kernel
 rw [e1, e2]
 exact ⟨fun h => h.2, fun h => ⟨all_full, h⟩⟩
theorem fold_two : ∀ (l : List Iv) (o : Iv), mayI o = true → WfIv o → (∀ x ∈ l, WfIv x) →
  mayI (l.foldl twoI o) = true ∧ WfIv (l.foldl twoI o) ∧ ∀ k, mem (code (l.foldl twoI o)) k ↔ mem (code o) k ∧ ∀ x ∈ l, mem (code x) k
 | [], o, hm, hw, _ => ⟨hm, hw, fun k => by simp⟩
 | x :: r, o, hm, hw, hl => by
  have wx := hl x (List.mem_cons_self ..)
  have w2 := wf2 hw wx
  rw [List.foldl_cons, two_eq]
  obtain ⟨h1, h2, h3⟩ := fold_two r (meetI [o, x]) (may_meet _) (meet_wf _ w2) (fun y hy => hl y (List.mem_cons_of_mem _ hy))
  refine ⟨h1, h2, fun k => ?_⟩
  rw [h3 k, mem_meet _ w2, all2]
  constructor
  ·rintro ⟨⟨_, a, b⟩, c⟩
   exact ⟨a, fun y hy => by rcases List.mem_cons.1 hy with rfl | hy; exact b; exact c y hy⟩
  ·rintro ⟨a, c⟩
   exact ⟨⟨mem_bd hw a, a, c x (List.mem_cons_self ..)⟩, fun y hy => c y (List.mem_cons_of_mem _ hy)⟩
theorem foldTwo_eq (l : List Iv) (hw : ∀ x ∈ l, WfIv x) : foldTwo l = meetI l := by
 obtain ⟨h1, h2, h3⟩ := fold_two l allI all_full.1 all_wf hw
 refine (eq_meet l hw h1 h2 fun k => ?_).symm
 unfold foldTwo at *
 rw [h3 k, mem_all]
theorem code_noneI : code noneI = none := code_not none_not_full
theorem fold_both : ∀ (l : List Iv) (o : Iv), mayI o = true → WfIv o → (∀ x ∈ l, WfIv x) →
  mayI (l.foldl bothI o) = true ∧ WfIv (l.foldl bothI o) ∧ ∀ c, Ok c → (sub (code (l.foldl bothI o)) c ↔ sub (code o) c ∧ ∀ x ∈ l, sub (code x) c)
 | [], o, hm, hw, _ => ⟨hm, hw, fun k _ => by simp⟩
 | x :: r, o, hm, hw, hl => by
  have wx := hl x (List.mem_cons_self ..)
  have w2 := wf2 hw wx
  rw [List.foldl_cons, both_eq hw wx]
  obtain ⟨h1, h2, h3⟩ := fold_both r (hullI [o, x]) (may_hull _) (hull_wf _ w2) (fun y hy => hl y (List.mem_cons_of_mem _ hy))
  refine ⟨h1, h2, fun c oc => ?_⟩
  rw [h3 c oc, sub_hull _ w2 c oc, all2]
  constructor
  ·rintro ⟨⟨a, b⟩, c⟩
   exact ⟨a, fun y hy => by rcases List.mem_cons.1 hy with rfl | hy; exact b; exact c y hy⟩
  ·rintro ⟨a, c⟩
   exact ⟨⟨a, c x (List.mem_cons_self ..)⟩, fun y hy => c y (List.mem_cons_of_mem _ hy)⟩
theorem foldBoth_eq (l : List Iv) (hw : ∀ x ∈ l, WfIv x) : foldBoth l = hullI l := by
 obtain ⟨h1, h2, h3⟩ := fold_both l noneI may_noneI noneI_wf hw
 refine (eq_hull l hw h1 h2 fun c oc => ?_).symm
 unfold foldBoth at *
 rw [h3 c oc, code_noneI]
 exact ⟨fun h => h.2, fun h => ⟨fun k hk => hk.elim, h⟩⟩
end Go.Proofs.Pl
