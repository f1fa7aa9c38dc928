/- Walks: Few of a number, Few of an interval. -/
import Derived.Test.YtagojbgmgkkdpaaR8Cm
namespace Go.Proofs.Ytagojbgmgkkdpaa.Wk
open Go.RowKit Go.Proofs.Pl Go.Proofs.YtagojbgmgkkdpaaW.PrintLast
set_option linter.unusedSimpArgs false
set_option linter.unusedVariables false

def fewN (x : Num) : Bool := !(x.k == 1) || (decide (-1500 ≤ x.e) && decide (x.e ≤ 1500))
theorem few_of {x : Num} (h : fewN x = true) : FewE x 1500 := by
  unfold FewE fairN
  split
  · next hm =>
    rcases may_cases hm with ⟨_, _, _, h1⟩ | ⟨h1, _⟩ | ⟨_, _, h1⟩
    · omega
    · unfold fewN at h
      rw [h1] at h
      simpa using h
    · omega
  · unfold zero; simp only; omega
set_option maxHeartbeats 4000000 in
theorem few6_calls (a0 : Int) (a1 : Bool) (a2 a3 : Int) (w : World) :
    Calls Try.prog 27 #[.agg #[.int .i64 a0, .bool a1, .int .u64 a2, .int .i64 a3]] w fun e w' => e = .returned (.bool (fewN ⟨a0, a1, a2, a3⟩)) ∧ Below w.heap.size w w' := by
  unfold fewN
  dsimp only
  by_cases h0 : a0 = 1
  · subst h0
    by_cases h1 : -1500 ≤ a3
    · by_cases h2 : a3 ≤ 1500
      all_goals go_enter Try.func27, Try.ntmps27
      all_goals go_wp2
      all_goals go_ret
      all_goals exact ⟨by simp_all, bl_alloc (Below.refl _ _) _⟩
    · go_enter Try.func27, Try.ntmps27
      go_wp2
      go_ret
      exact ⟨by simp; omega, bl_alloc (Below.refl _ _) _⟩
  · have h0' : (a0 == 1) = false := by simpa using h0
    go_enter Try.func27, Try.ntmps27
    go_wp2
    go_ret
    exact ⟨by simp [h0], bl_alloc (Below.refl _ _) _⟩
set_option maxHeartbeats 4000000 in
theorem few8_calls (a0 : Bool) (a1 : Int) (a2 : Bool) (a3 a4 a5 : Int) (a6 : Bool) (a7 a8 : Int) (w : World) :
    Calls Try.prog 26 #[.agg #[.bool a0, .int .i64 a1, .bool a2, .int .u64 a3, .int .i64 a4, .int .i64 a5, .bool a6, .int .u64 a7, .int .i64 a8]] w fun e w' => e = .returned (.bool (fewN ⟨a1, a2, a3, a4⟩ && fewN ⟨a5, a6, a7, a8⟩)) ∧ Below w.heap.size w w' := by
  have H1 := Lib.hid (fun W => few6_calls a1 a2 a3 a4 W)
  have H2 := Lib.hid (fun W => few6_calls a5 a6 a7 a8 W)
  generalize fewN ⟨a1, a2, a3, a4⟩ = p at H1 ⊢
  generalize fewN ⟨a5, a6, a7, a8⟩ = q at H2 ⊢
  have BX := Blk.new w 26 #[.bool a0, .int .i64 a1, .bool a2, .int .u64 a3, .int .i64 a4, .int .i64 a5, .bool a6, .int .u64 a7, .int .i64 a8]
  have HBd := bl_alloc (Below.refl w.heap.size w) (.cells #[.bool a0, .int .i64 a1, .bool a2, .int .u64 a3, .int .i64 a4, .int .i64 a5, .bool a6, .int .u64 a7, .int .i64 a8] 26)
  cases p
  all_goals go_enter Try.func26, Try.ntmps26
  all_goals go_wp2_with (first
    | (go_at_call 27; (with_reducible refine (H1.out _).mono ?_); rintro e' w1 ⟨rfl, hb⟩; replace BX := BX.call hb; replace HBd := bl_trans HBd hb; clear hb; obtain ⟨⟨p0, p1, p2, p3, p4, p5, p6, p7, p8⟩, _⟩ := BX.c9)
    | (go_at_call 27; (with_reducible refine (H2.out _).mono ?_); rintro e' w2 ⟨rfl, hb⟩; replace HBd := bl_trans HBd hb; clear hb))
  all_goals go_ret
  all_goals exact ⟨by simp, HBd⟩
end Go.Proofs.Ytagojbgmgkkdpaa.Wk
