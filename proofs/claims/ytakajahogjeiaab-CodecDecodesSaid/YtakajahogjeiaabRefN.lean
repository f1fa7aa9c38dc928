/- Walks: what the reference's small functions of numbers compute: they are num's. -/
import Derived.Test.YtakajahogjeiaabNumB
namespace Go.Proofs.Ytakajahogjeiaab.Wk
open Go.RowKit Go.Proofs.Pl Go.Proofs.YtakajahogjeiaabW.PrintLast
set_option linter.unusedSimpArgs false
set_option linter.unusedVariables false

set_option maxHeartbeats 2000000 in
theorem rmayN_calls (a0 : Int) (a1 : Bool) (a2 a3 : Int) (w : World) :
    Calls Try.prog 111 #[.agg #[.int .i64 a0, .bool a1, .int .u64 a2, .int .i64 a3]] w fun e w' => e = .returned (.bool (mayN ⟨a0, a1, a2, a3⟩)) ∧ Below w.heap.size w w' := by
  go_enter Try.func111, Try.ntmps111
  go_wp2
  all_goals go_ret
  all_goals refine ⟨?_, (Below.refl _ _).alloc (Nat.le_refl _) _⟩
  all_goals (simp_all [mayN]; try first | omega | (rw [Bool.eq_iff_iff]; simp))

set_option maxHeartbeats 400000 in
theorem rfairN_calls (a0 : Int) (a1 : Bool) (a2 a3 : Int) (w : World) :
    Calls Try.prog 124 #[.agg #[.int .i64 a0, .bool a1, .int .u64 a2, .int .i64 a3]] w fun e w' => e = .returned (.agg #[.int .i64 (fairN ⟨a0, a1, a2, a3⟩).k, .bool (fairN ⟨a0, a1, a2, a3⟩).n, .int .u64 (fairN ⟨a0, a1, a2, a3⟩).m, .int .i64 (fairN ⟨a0, a1, a2, a3⟩).e]) ∧ Below w.heap.size w w' := by
  go_enter Try.func124, Try.ntmps124
  go_wp2_with (go_at_call 111; refine (rmayN_calls _ _ _ _ _).mono ?_; rintro e w1 ⟨rfl, hb⟩; have HB := bl_trans (bl_alloc (bl_alloc (Below.refl w.heap.size w) _) _) hb; have hz := hb.size; obtain ⟨hc, hf⟩ := bcell hb; clear hb)
  all_goals refine bodyPost_ret (v := _) (by simp [results, Try.results124, go_sem, hc]; rfl) rfl ⟨?_, ?_⟩
  all_goals first
    | (simp_all [fairN, zero]; done)
    | (repeat (first | exact HB | refine bl_set ?_ (by simp) _ | apply bl_alloc))

set_option maxHeartbeats 400000 in
theorem r6fairN_calls (a0 : Int) (a1 : Bool) (a2 a3 : Int) (w : World) :
    Calls Try.prog 118 #[.agg #[.int .i64 a0, .bool a1, .int .u64 a2, .int .i64 a3]] w fun e w' => e = .returned (.agg #[.int .i64 (fairN ⟨a0, a1, a2, a3⟩).k, .bool (fairN ⟨a0, a1, a2, a3⟩).n, .int .u64 (fairN ⟨a0, a1, a2, a3⟩).m, .int .i64 (fairN ⟨a0, a1, a2, a3⟩).e]) ∧ Below w.heap.size w w' := by
  go_enter Try.func118, Try.ntmps118
  go_wp2_with (go_at_call 111; refine (rmayN_calls _ _ _ _ _).mono ?_; rintro e w1 ⟨rfl, hb⟩; have HB := bl_trans (bl_alloc (bl_alloc (Below.refl w.heap.size w) _) _) hb; have hz := hb.size; obtain ⟨hc, hf⟩ := bcell hb; clear hb)
  all_goals refine bodyPost_ret (v := _) (by simp [results, Try.results118, go_sem, hc]; rfl) rfl ⟨?_, ?_⟩
  all_goals first
    | (simp_all [fairN, zero]; done)
    | (repeat (first | exact HB | refine bl_set ?_ (by simp) _ | apply bl_alloc))

set_option maxHeartbeats 400000 in
theorem rinfN_calls (b : Bool) (w : World) :
    Calls Try.prog 119 #[.bool b] w fun e w' => e = .returned (.agg #[.int .i64 (infN b).k, .bool (infN b).n, .int .u64 (infN b).m, .int .i64 (infN b).e]) ∧ Below w.heap.size w w' := by
  go_enter Try.func119, Try.ntmps119
  go_wp2
  all_goals refine bodyPost_ret (v := _) (by simp [results, Try.results119, go_sem]; rfl) rfl ⟨?_, ?_⟩
  all_goals first
    | (simp_all [infN]; done)
    | (repeat (first | exact Below.refl _ _ | refine bl_set ?_ (by simp) _ | apply bl_alloc))

set_option maxHeartbeats 400000 in
theorem rsignN_calls (a0 : Int) (a1 : Bool) (a2 a3 : Int) (w : World) :
    Calls Try.prog 94 #[.agg #[.int .i64 a0, .bool a1, .int .u64 a2, .int .i64 a3]] w fun e w' => e = .returned (.int .i64 (signN ⟨a0, a1, a2, a3⟩)) ∧ Below w.heap.size w w' := by
  go_enter Try.func94, Try.ntmps94
  go_wp2_with (go_at_call 124; refine (rfairN_calls _ _ _ _ _).mono ?_; rintro e w1 ⟨rfl, hb⟩; have HB := bl_trans (bl_alloc (Below.refl w.heap.size w) _) hb; have hz := hb.size; obtain ⟨hc, hf⟩ := bcell hb; clear hb)
  all_goals go_ret
  all_goals refine ⟨?_, ?_⟩
  all_goals first
    | (simp_all [signN, signF]; done)
    | (repeat (first | exact HB | refine bl_set ?_ (by simp) _ | apply bl_alloc))

end Go.Proofs.Ytakajahogjeiaab.Wk
