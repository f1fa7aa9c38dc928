/- Plain law: intervals as sets of keys; what two or many have together and their hull, by their sets. -/
import Derived.Test.YtagojbgmgkkdpaaGreatIvPl2
namespace Go.Proofs.Pl
set_option linter.unusedVariables false
set_option linter.unusedSimpArgs false

abbrev Code := Option (Int × Int)
def mem : Code → Int → Prop
 | none, _ => False
 | some (l, h), k => l ≤ k ∧ k ≤ h
def Ok : Code → Prop
 | none => True
 | some (l, h) => l ≤ h ∧ -TOP ≤ l ∧ h ≤ TOP
def sub (c d : Code) : Prop := ∀ k, mem c k → mem d k
theorem sub_refl (c : Code) : sub c c := fun _ h => h
theorem sub_anti {c d : Code} (hc : Ok c) (hd : Ok d) (h1 : sub c d) (h2 : sub d c) : c = d := by
 match c, d, hc, hd with
 | none, none, _, _ => rfl
 | none, some (l, h), _, hd => exact absurd (h2 l ⟨Int.le_refl _, hd.1⟩) id
 | some (l, h), none, hc, _ => exact absurd (h1 l ⟨Int.le_refl _, hc.1⟩) id
 | some (l, h), some (l', h'), hc, hd =>
  have a1 := h1 l ⟨Int.le_refl _, hc.1⟩
  have a2 := h1 h ⟨hc.1, Int.le_refl _⟩
  have a3 := h2 l' ⟨Int.le_refl _, hd.1⟩
  have a4 := h2 h' ⟨hd.1, Int.le_refl _⟩
  simp only [mem] at a1 a2 a3 a4
  obtain rfl : l = l' := by omega
  obtain rfl : h = h' := by omega
  rfl
theorem mem_ext {c d : Code} (hc : Ok c) (hd : Ok d) (h : ∀ k, mem c k ↔ mem d k) : c = d := sub_anti hc hd (fun k => (h k).1) (fun k => (h k).2)
open Classical in
noncomputable def code (x : Iv) : Code := if Full x then some (key x.lo, key x.hi) else none
theorem code_full {x : Iv} (h : Full x) : code x = some (key x.lo, key x.hi) := by unfold code; rw [if_pos h]
theorem code_not {x : Iv} (h : ¬ Full x) : code x = none := by unfold code; rw [if_neg h]
theorem code_ok {x : Iv} (w : WfIv x) : Ok (code x) := by
 by_cases h : Full x
 ·rw [code_full h]
  have g := (full_iff w).1 h
  have b1 := key_bd g.2.1 w.1
  have b2 := key_bd g.2.2.1 w.2
  exact ⟨by omega, by omega, by omega⟩
 ·rw [code_not h]; trivial
theorem mem_code {x : Iv} {k : Int} : mem (code x) k ↔ Full x ∧ key x.lo ≤ k ∧ k ≤ key x.hi := by
 by_cases h : Full x
 ·rw [code_full h]; simp [mem, h]
 ·rw [code_not h]; simp [mem, h]
theorem may_none {x : Iv} (h : mayI x = true) (hf : ¬ Full x) : x = noneI := by
 by_cases e : x.emp = true
 ·unfold mayI at h
  rw [if_pos e] at h
  exact of_decide_eq_true h
 ·exact absurd ⟨h, by simpa using e⟩ hf
theorem eq_of_code {x y : Iv} (hx : mayI x = true) (hy : mayI y = true) (wx : WfIv x) (wy : WfIv y) (h : code x = code y) : x = y := by
 by_cases fx : Full x
 ·by_cases fy : Full y
  ·rw [code_full fx, code_full fy] at h
   have gx := (full_iff wx).1 fx
   have gy := (full_iff wy).1 fy
   simp only [Option.some.injEq, Prod.mk.injEq] at h
   have e1 := key_inj gx.2.1 gy.2.1 wx.1 wy.1 h.1
   have e2 := key_inj gx.2.2.1 gy.2.2.1 wx.2 wy.2 h.2
   exact Iv.ext (by rw [gx.1, gy.1]) e1 e2
  ·rw [code_full fx, code_not fy] at h; cases h
 ·by_cases fy : Full y
  ·rw [code_not fx, code_full fy] at h; cases h
  ·rw [may_none hx fx, may_none hy fy]
theorem eq_iff {x y : Iv} (hx : mayI x = true) (hy : mayI y = true) (wx : WfIv x) (wy : WfIv y) : x = y ↔ (∀ k, mem (code x) k ↔ mem (code y) k) :=
 ⟨fun h => by subst h; exact fun _ => Iff.rfl, fun h => eq_of_code hx hy wx wy (mem_ext (code_ok wx) (code_ok wy) h)⟩
theorem may_full {x : Iv} (h : Full x) : mayI x = true := h.1
theorem may_noneI : mayI noneI = true := by decide +kernel
theorem may_fairI (x : Iv) : mayI (fairI x) = true := by
 rcases fairI_cases x with ⟨h, e⟩ | ⟨_, e⟩
 ·rw [e]; exact h.1
 ·rw [e]; exact may_noneI
theorem may_make (a b : Num) : mayI (makeI a b) = true := by rw [makeI_eq]; exact may_fairI _
theorem may_meet (l : List Iv) : mayI (meetI l) = true := by
 unfold meetI
 split
 ·exact may_make _ _
 ·exact may_noneI
theorem may_hull (l : List Iv) : mayI (hullI l) = true := by
 unfold hullI
 split
 ·exact may_noneI
 ·exact may_make _ _
theorem mem_meet (l : List Iv) (hw : ∀ x ∈ l, WfIv x) (k : Int) : mem (code (meetI l)) k ↔ (-TOP ≤ k ∧ k ≤ TOP) ∧ ∀ x ∈ l, mem (code x) k := by
 simp only [mem_code]
 by_cases hc : (∀ x ∈ l, Full x) ∧ ∀ x ∈ l, ∀ y ∈ l, key x.lo ≤ key y.hi
 ·obtain ⟨g0, g1, g2, g3, g4⟩ := meet_full l hw hc.1 hc.2
  have b := code_ok (meet_wf l hw)
  rw [code_full g0] at b
  simp only [Ok] at b
  constructor
  ·rintro ⟨_, h1, h2⟩
   refine ⟨⟨by omega, by omega⟩, fun x hx => ⟨hc.1 x hx, ?_, ?_⟩⟩
   ·have := g1 x hx; omega
   ·have := g3 x hx; omega
  ·rintro ⟨h1, h2⟩
   exact ⟨g0, g2 k h1.1 fun x hx => (h2 x hx).2.1, g4 k h1.2 fun x hx => (h2 x hx).2.2⟩
 ·rw [meet_none l hw hc]
  constructor
  ·rintro ⟨h, _⟩; exact absurd h none_not_full
  ·rintro ⟨_, h⟩
   refine absurd ⟨fun x hx => (h x hx).1, fun x hx y hy => ?_⟩ hc
   have := h x hx; have := h y hy; omega
theorem sub_hull (l : List Iv) (hw : ∀ x ∈ l, WfIv x) (c : Code) (oc : Ok c) : sub (code (hullI l)) c ↔ ∀ x ∈ l, sub (code x) c := by
 by_cases hf : ∃ x ∈ l, Full x
 ·obtain ⟨g0, g1, g2, g3⟩ := hull_full l hw hf
  have hw' := hull_wf l hw
  have gh := (full_iff hw').1 g0
  constructor
  ·intro h x hx k hk
   rw [mem_code] at hk
   refine h k (mem_code.2 ⟨g0, ?_, ?_⟩)
   ·have := (g1 x hx hk.1).1; omega
   ·have := (g1 x hx hk.1).2; omega
  ·intro h
   match c, oc with
   | none, _ =>
    obtain ⟨x, hx, fx⟩ := hf
    have gx := (full_iff (hw x hx)).1 fx
    exact absurd (h x hx (key x.lo) (mem_code.2 ⟨fx, Int.le_refl _, gx.2.2.2.1⟩)) id
   | some (l', h'), oc =>
    have a : ∀ x ∈ l, Full x → l' ≤ key x.lo ∧ key x.hi ≤ h' := fun x hx fx => by
     have gx := (full_iff (hw x hx)).1 fx
     have a1 := h x hx (key x.lo) (mem_code.2 ⟨fx, Int.le_refl _, gx.2.2.2.1⟩)
     have a2 := h x hx (key x.hi) (mem_code.2 ⟨fx, gx.2.2.2.1, Int.le_refl _⟩)
     exact ⟨a1.1, a2.2⟩
    have e1 := g2 l' (by simp only [Ok] at oc; omega) fun x hx fx => (a x hx fx).1
    have e2 := g3 h' (by simp only [Ok] at oc; omega) fun x hx fx => (a x hx fx).2
    intro k hk
    rw [mem_code] at hk
    exact ⟨by omega, by omega⟩
 ·rw [hull_none l hf]
  constructor
  ·intro _ x hx k hk
   exact absurd ⟨x, hx, (mem_code.1 hk).1⟩ hf
  ·intro _ k hk
   exact absurd (mem_code.1 hk).1 none_not_full
theorem eq_hull {x : Iv} (l : List Iv) (hw : ∀ y ∈ l, WfIv y) (hx : mayI x = true) (wx : WfIv x) (h : ∀ c, Ok c → (sub (code x) c ↔ ∀ y ∈ l, sub (code y) c)) : hullI l = x := by
 have wh := hull_wf l hw
 refine eq_of_code (may_hull l) hx wh wx (sub_anti (code_ok wh) (code_ok wx) ?_ ?_)
 ·exact (sub_hull l hw _ (code_ok wx)).2 ((h _ (code_ok wx)).1 (sub_refl _))
 ·exact (h _ (code_ok wh)).2 ((sub_hull l hw _ (code_ok wh)).1 (sub_refl _))
theorem eq_meet {x : Iv} (l : List Iv) (hw : ∀ y ∈ l, WfIv y) (hx : mayI x = true) (wx : WfIv x) (h : ∀ k, mem (code x) k ↔ (-TOP ≤ k ∧ k ≤ TOP) ∧ ∀ y ∈ l, mem (code y) k) : meetI l = x :=
 (eq_iff (may_meet l) hx (meet_wf l hw) wx).2 fun k => (mem_meet l hw k).trans (h k).symm
theorem mem_bd {x : Iv} (w : WfIv x) {k : Int} (h : mem (code x) k) : -TOP ≤ k ∧ k ≤ TOP := by
 have o := code_ok w
 rw [mem_code] at h
 rw [code_full h.1] at o
 simp only [Ok] at o
 omega
theorem fair_full {x : Iv} (h : Full (fairI x)) : Full x := by
 rcases fairI_cases x with ⟨f, e⟩ | ⟨f, e⟩
 ·exact f
 ·rw [e] at h; exact absurd h none_not_full
theorem within_iff {a b : Iv} (wa : WfIv a) (wb : WfIv b) : withinI a b = true ↔ sub (code a) (code b) := by
 unfold withinI withinF
 rcases fairI_cases a with ⟨fa, ea⟩ | ⟨fa, ea⟩
 ·have ga := (full_iff wa).1 fa
  rcases fairI_cases b with ⟨fb, eb⟩ | ⟨fb, eb⟩
  ·have gb := (full_iff wb).1 fb
   rw [ea, eb, ga.1, gb.1]
   simp only [Bool.false_or, Bool.not_false, Bool.true_and, Bool.and_eq_true, decide_eq_true_eq]
   rw [cmp_le wb.1 wa.1, cmp_le wa.2 wb.2, K_of ga.2.1, K_of ga.2.2.1, K_of gb.2.1, K_of gb.2.2.1]
   constructor
   ·rintro ⟨h1, h2⟩ k hk
    rw [mem_code] at hk ⊢
    exact ⟨fb, by omega, by omega⟩
   ·intro h
    have a1 := mem_code.1 (h _ (mem_code.2 ⟨fa, Int.le_refl _, ga.2.2.2.1⟩))
    have a2 := mem_code.1 (h _ (mem_code.2 ⟨fa, ga.2.2.2.1, Int.le_refl _⟩))
    exact ⟨a1.2.1, a2.2.2⟩
  ·rw [ea, eb, ga.1]
   simp only [noneI, Bool.not_true, Bool.false_and, Bool.or_self, Bool.false_eq_true, false_iff, Bool.false_or]
   intro h
   exact fb (mem_code.1 (h _ (mem_code.2 ⟨fa, Int.le_refl _, ga.2.2.2.1⟩))).1
 ·rw [ea]
  simp only [noneI, Bool.true_or, true_iff]
  intro k hk
  exact absurd (mem_code.1 hk).1 fa

theorem wf2 {a b : Iv} (wa : WfIv a) (wb : WfIv b) : ∀ x ∈ [a, b], WfIv x := by
 intro x hx
 rcases List.mem_cons.1 hx with rfl | hx
 ·exact wa
 ·rw [List.mem_singleton.1 hx]; exact wb
theorem wf1 {a : Iv} (wa : WfIv a) : ∀ x ∈ [a], WfIv x := fun x hx => by rw [List.mem_singleton.1 hx]; exact wa
theorem wf3 {a b c : Iv} (wa : WfIv a) (wb : WfIv b) (wc : WfIv c) : ∀ x ∈ [a, b, c], WfIv x := by
 intro x hx
 rcases List.mem_cons.1 hx with rfl | hx
 ·exact wa
 ·exact wf2 wb wc x hx
theorem all2 {a b : Iv} {P : Iv → Prop} : (∀ x ∈ [a, b], P x) ↔ P a ∧ P b := by simp
theorem all1 {a : Iv} {P : Iv → Prop} : (∀ x ∈ [a], P x) ↔ P a := by simp
theorem all3 {a b c : Iv} {P : Iv → Prop} : (∀ x ∈ [a, b, c], P x) ↔ P a ∧ P b ∧ P c := by simp

/-- IvOrder -/
theorem law_order (a b : Iv) (ma : mayI a = true) (mb : mayI b = true) (wa : WfIv a) (wb : WfIv b) :
  withinI (meetI [a, b]) a = true ∧ withinI (meetI [a, b]) b = true ∧ withinI a (hullI [a, b]) = true ∧ withinI b (hullI [a, b]) = true ∧
  withinI a b = decide (meetI [a, b] = a) ∧ withinI a b = decide (hullI [a, b] = b) ∧ meetI [b, a] = meetI [a, b] := by
 have w2 := wf2 wa wb
 have wm := meet_wf _ w2
 have wh := hull_wf _ w2
 have hm : ∀ k, mem (code (meetI [a, b])) k ↔ (-TOP ≤ k ∧ k ≤ TOP) ∧ mem (code a) k ∧ mem (code b) k := fun k => by rw [mem_meet _ w2, all2]
 have hh : ∀ c, Ok c → (sub (code (hullI [a, b])) c ↔ sub (code a) c ∧ sub (code b) c) := fun c oc => by rw [sub_hull _ w2 c oc, all2]
 have h0 := (hh _ (code_ok wh)).1 (sub_refl _)
 refine ⟨(within_iff wm wa).2 fun k hk => ((hm k).1 hk).2.1, (within_iff wm wb).2 fun k hk => ((hm k).1 hk).2.2, (within_iff wa wh).2 h0.1, (within_iff wb wh).2 h0.2, ?_, ?_, ?_⟩
 ·rw [Bool.eq_iff_iff, within_iff wa wb, decide_eq_true_eq]
  constructor
  ·intro h
   exact eq_meet _ w2 ma wa fun k => by
    rw [all2]
    exact ⟨fun hk => ⟨mem_bd wa hk, hk, h k hk⟩, fun hk => hk.2.1⟩
  ·intro h k hk
   rw [← h] at hk
   exact ((hm k).1 hk).2.2
 ·rw [Bool.eq_iff_iff, within_iff wa wb, decide_eq_true_eq]
  constructor
  ·intro h
   exact eq_hull _ w2 mb wb fun c oc => by
    rw [all2]
    exact ⟨fun hk => ⟨fun k h' => hk k (h k h'), hk⟩, fun hk => hk.2⟩
  ·intro h
   rw [h] at h0
   exact h0.1
 ·refine eq_meet _ (wf2 wb wa) (may_meet _) wm fun k => ?_
  rw [all2, hm k]
  exact ⟨fun h => ⟨h.1, h.2.2, h.2.1⟩, fun h => ⟨h.1, h.2.2, h.2.1⟩⟩
end Go.Proofs.Pl
