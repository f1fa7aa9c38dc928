/- Walk: peloruslaw21.DegreeBoxes. -/
import Derived.Test.YtakajahogjeiaaaDegL
namespace Go.Proofs.Ytakajahogjeiaaa.Wk
open Go.RowKit Go.Proofs.YtakajahogjeiaaaW.PrintLast
set_option linter.unusedSimpArgs false
set_option linter.unusedVariables false

set_option maxRecDepth 100000 in
set_option maxHeartbeats 4000000 in
theorem boxes_calls (x y u v : Int) (w : World) : Calls Try.prog 5 #[.int .i64 x, .int .i64 y, .int .i64 u, .int .i64 v] w fun e w' => e = .returned (.bool true) ∧ Below w.heap.size w w' := by
  have HA := Lib.hid (fun W => awake21_calls W)
  go_enter Try.func5, Try.ntmps5
  go_wp2_with (go_at_call 14; (with_reducible refine (HA.out _).mono ?_); rintro e w1 ⟨rfl, hb1⟩; clear HA)
  all_goals first
    | (go_ret; exact ⟨by simp, hb1⟩)
    | skip
  refine (winding_calls _ 4 4 [(x, y), (u, y), (u, v), (x, v)] _ (SlP.lit4 (a := (x, y)) (b := (u, y)) (c := (u, v)) (d := (x, v)) (Blk.new w1 _ _) (by simp)) (by omega)).mono ?_
  rintro e w2 ⟨rfl, hb2⟩
  have HB2 := bl_trans (bl_alloc hb1 _) hb2
  have hwb := Deg.wind_box x y u v (by omega) (by omega) (by omega) (by omega) (by omega) (by omega)
  generalize Deg.wind [(x, y), (u, y), (u, v), (x, v)] = r at hwb ⊢
  obtain ⟨r1, r2⟩ := r
  clear hb1 hb2
  by_cases c1 : x < 0 ∧ 0 < u ∧ y < 0 ∧ 0 < v
  · rw [if_pos c1] at hwb
    cases hwb
    obtain ⟨c2, c3, c4, c5⟩ := c1
    go_wp2
    all_goals go_ret
    all_goals exact ⟨by simp, HB2⟩
  · rw [if_neg c1] at hwb
    by_cases c2 : 0 < x ∨ u < 0 ∨ 0 < y ∨ v < 0
    · rw [if_pos c2] at hwb
      cases hwb
      go_wp2
      all_goals first
        | (exfalso; omega)
        | (go_ret; exact ⟨by first | rfl | simp_all <;> omega, HB2⟩)
    · rw [if_neg c2] at hwb
      cases hwb
      go_wp2
      all_goals first
        | (exfalso; omega)
        | (go_ret; exact ⟨by first | rfl | simp_all <;> omega, HB2⟩)
end Go.Proofs.Ytakajahogjeiaaa.Wk
