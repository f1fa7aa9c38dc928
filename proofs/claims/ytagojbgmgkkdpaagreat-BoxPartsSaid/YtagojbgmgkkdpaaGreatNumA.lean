/- Walks: what num's small functions compute, for every number that comes in (no condition). -/
import Derived.Test.YtagojbgmgkkdpaaGreatRegLib
import Derived.Test.YtagojbgmgkkdpaaGreatNumDef
namespace Go.Proofs.YtagojbgmgkkdpaaGreat.Wk
open Go.RowKit Go.Proofs.Pl
set_option linter.unusedSimpArgs false
set_option linter.unusedVariables false

set_option maxHeartbeats 400000 in
theorem mayN_calls (a0 : Int) (a1 : Bool) (a2 a3 : Int) (w : World) :
  Calls Tryz.prog 81 #[.agg #[.int .i64 a0, .bool a1, .int .u64 a2, .int .i64 a3]] w fun e w' => e = .returned (.bool (mayN ⟨a0, a1, a2, a3⟩)) ∧ Below w.heap.size w w' := by
 go_enter Tryz.func81, Tryz.ntmps81
 go_wp2
 all_goals go_ret
 all_goals refine ⟨?_, (Below.refl _ _).alloc (Nat.le_refl _) _⟩
 all_goals (simp_all [mayN]; try first | omega | (rw [Bool.eq_iff_iff]; simp))

set_option maxHeartbeats 400000 in
theorem fairN_calls (a0 : Int) (a1 : Bool) (a2 a3 : Int) (w : World) :
  Calls Tryz.prog 50 #[.agg #[.int .i64 a0, .bool a1, .int .u64 a2, .int .i64 a3]] w fun e w' => e = .returned (.agg #[.int .i64 (fairN ⟨a0, a1, a2, a3⟩).k, .bool (fairN ⟨a0, a1, a2, a3⟩).n, .int .u64 (fairN ⟨a0, a1, a2, a3⟩).m, .int .i64 (fairN ⟨a0, a1, a2, a3⟩).e]) ∧ Below w.heap.size w w' := by
 go_enter Tryz.func50, Tryz.ntmps50
 go_wp2_with (go_at_call 81; refine (mayN_calls _ _ _ _ _).mono ?_; rintro e w1 ⟨rfl, hb⟩; have HB := bl_trans (bl_alloc (bl_alloc (Below.refl w.heap.size w) _) _) hb; have hz := hb.size; obtain ⟨hc, hf⟩ := bcell hb; clear hb)
 all_goals refine bodyPost_ret (v := _) (by simp [results, Tryz.results50, go_sem, hc]; rfl) rfl ⟨?_, ?_⟩
 all_goals first
  | (simp_all [fairN, zero]; done)
  | (repeat (first | exact HB | refine bl_set ?_ (by simp) _ | apply bl_alloc))

set_option maxHeartbeats 400000 in
theorem signN_calls (a0 : Int) (a1 : Bool) (a2 a3 : Int) (w : World) :
  Calls Tryz.prog 51 #[.agg #[.int .i64 a0, .bool a1, .int .u64 a2, .int .i64 a3]] w fun e w' => e = .returned (.int .i64 (signN ⟨a0, a1, a2, a3⟩)) ∧ Below w.heap.size w w' := by
 go_enter Tryz.func51, Tryz.ntmps51
 go_wp2_with (go_at_call 50; refine (fairN_calls _ _ _ _ _).mono ?_; rintro e w1 ⟨rfl, hb⟩; have HB := bl_trans (bl_alloc (Below.refl w.heap.size w) _) hb; have hz := hb.size; obtain ⟨hc, hf⟩ := bcell hb; clear hb)
 all_goals go_ret
 all_goals refine ⟨?_, ?_⟩
 all_goals first
  | (simp_all [signN, signF]; done)
  | (repeat (first | exact HB | refine bl_set ?_ (by simp) _ | apply bl_alloc))

set_option maxHeartbeats 400000 in
theorem farN_calls (a0 : Int) (a1 : Bool) (a2 a3 : Int) (b0 : Int) (b1 : Bool) (b2 b3 : Int) (w : World) :
  Calls Tryz.prog 52 #[.agg #[.int .i64 a0, .bool a1, .int .u64 a2, .int .i64 a3], .agg #[.int .i64 b0, .bool b1, .int .u64 b2, .int .i64 b3]] w fun e w' => e = .returned (.bool (farN ⟨a0, a1, a2, a3⟩ ⟨b0, b1, b2, b3⟩)) ∧ Below w.heap.size w w' := by
 go_enter Tryz.func52, Tryz.ntmps52
 go_wp2
 all_goals go_ret
 all_goals refine ⟨?_, ?_⟩
 all_goals first
  | (simp_all [farN]; done)
  | (repeat (first | exact Below.refl _ _ | refine bl_set ?_ (by simp) _ | apply bl_alloc))

set_option maxHeartbeats 400000 in
theorem infN_calls (b : Bool) (w : World) :
  Calls Tryz.prog 100 #[.bool b] w fun e w' => e = .returned (.agg #[.int .i64 (infN b).k, .bool (infN b).n, .int .u64 (infN b).m, .int .i64 (infN b).e]) ∧ Below w.heap.size w w' := by
 go_enter Tryz.func100, Tryz.ntmps100
 go_wp2
 all_goals refine bodyPost_ret (v := _) (by simp [results, Tryz.results100, go_sem]; rfl) rfl ⟨?_, ?_⟩
 all_goals first
  | (simp_all [infN]; done)
  | (repeat (first | exact Below.refl _ _ | refine bl_set ?_ (by simp) _ | apply bl_alloc))

end Go.Proofs.YtagojbgmgkkdpaaGreat.Wk
