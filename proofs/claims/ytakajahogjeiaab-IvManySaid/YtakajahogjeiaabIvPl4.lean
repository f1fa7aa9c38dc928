/- Plain law of IvMany: what three have, and their hull, are those of two, one behind the other. -/
import Derived.Test.YtakajahogjeiaabIvPl3
namespace Go.Proofs.Pl
set_option linter.unusedVariables false
set_option linter.unusedSimpArgs false

theorem law_many (a b c : Iv) (ma : mayI a = true) (mb : mayI b = true) (mc : mayI c = true) (wa : WfIv a) (wb : WfIv b) (wc : WfIv c) :
    meetI [meetI [c, a], b] = meetI [a, b, c] ∧ hullI [b, hullI [a, c]] = hullI [a, b, c] ∧ meetI [a] = a ∧ hullI [a] = a ∧ hullI [a, a] = a ∧ meetI [a, a] = a := by
  have w3 := wf3 wa wb wc
  have wca := wf2 wc wa
  have wac := wf2 wa wc
  have wm1 := meet_wf _ wca
  have wh1 := hull_wf _ wac
  have oc : ∀ (l : List Iv), (∀ x ∈ l, WfIv x) → Ok (code (hullI l)) := fun l h => code_ok (hull_wf l h)
  refine ⟨?_, ?_, ?_, ?_, ?_, ?_⟩
  · refine eq_meet _ (wf2 wm1 wb) (may_meet _) (meet_wf _ w3) fun k => ?_
    rw [mem_meet _ w3, all3, all2, mem_meet _ wca, all2]
    exact ⟨fun ⟨h0, h1, h2, h3⟩ => ⟨h0, ⟨h0, h3, h1⟩, h2⟩, fun ⟨h0, ⟨_, h3, h1⟩, h2⟩ => ⟨h0, h1, h2, h3⟩⟩
  · refine eq_hull _ (wf2 wb wh1) (may_hull _) (hull_wf _ w3) fun d od => ?_
    rw [sub_hull _ w3 d od, all3, all2, sub_hull _ wac d od, all2]
    exact ⟨fun ⟨h1, h2, h3⟩ => ⟨h2, h1, h3⟩, fun ⟨h2, h1, h3⟩ => ⟨h1, h2, h3⟩⟩
  · exact eq_meet _ (wf1 wa) ma wa fun k => by
      rw [all1]
      exact ⟨fun h => ⟨mem_bd wa h, h⟩, fun h => h.2⟩
  · exact eq_hull _ (wf1 wa) ma wa fun d od => by rw [all1]
  · exact eq_hull _ (wf2 wa wa) ma wa fun d od => by
      rw [all2]
      exact ⟨fun h => ⟨h, h⟩, fun h => h.1⟩
  · exact eq_meet _ (wf2 wa wa) ma wa fun k => by
      rw [all2]
      exact ⟨fun h => ⟨mem_bd wa h, h, h⟩, fun h => h.2.1⟩
theorem meet_nil : meetI [] = allI := by decide +kernel
theorem hull_nil : hullI [] = noneI := by decide +kernel
end Go.Proofs.Pl
