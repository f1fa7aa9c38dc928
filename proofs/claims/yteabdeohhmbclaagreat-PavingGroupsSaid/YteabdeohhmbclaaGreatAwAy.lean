/- Walks: num.Of at 0, 1, 2, 3, 4, and peloruslaw08.Of at pairs of these. -/
import Derived.Test.YteabdeohhmbclaaGreatIvXy
import Derived.Test.YteabdeohhmbclaaGreatIvYy
namespace Go.Proofs.YteabdeohhmbclaaGreat.Wk
open Go.RowKit Go.Proofs.Pl
set_option linter.unusedSimpArgs false
set_option linter.unusedVariables false

set_option maxRecDepth 100000 in
set_option maxHeartbeats 2000000 in
theorem len_1 (w : World) : Calls Tryz.prog 33 #[.u 1] w fun e w' => e = .returned (.i 1) ∧ Below w.heap.size w w' := by
 go_enter Tryz.func33, Tryz.ntmps33
 go_wp2
 go_ret
 exact ⟨by first | rfl | kernel_rfl, Below.refl _ _⟩
theorem lead_1 (w : World) : Calls Tryz.prog 21 #[.u 1] w fun e w' => e = .returned (.i 63) ∧ Below w.heap.size w w' := by
 go_enter Tryz.func21, Tryz.ntmps21
 go_wp2_with (go_at_call 33; refine (len_1 _).mono ?_; rintro e w1 ⟨rfl, hb⟩)
 go_ret
 exact ⟨by rfl, hb⟩
set_option maxRecDepth 100000 in
set_option maxHeartbeats 2000000 in
theorem of_1 (w : World) :
  Calls Tryz.prog 9 #[.i 1] w fun e w' => e = .returned (.agg #[.i 1, .b false, .u 9223372036854775808, .i (-63)]) ∧ Below w.heap.size w w' := by
 go_enter Tryz.func9, Tryz.ntmps9
 go_wp2_with (go_at_call 21; refine (lead_1 _).mono ?_; rintro e w1 ⟨rfl, hb⟩; have BR1 := (Blk.new w _ _).call hb; have HB1 := bl_trans (bl_alloc (Below.refl w.heap.size w) _) hb; obtain ⟨W3, hW3, B3, _, hL, hzz⟩ := put4 BR1 (.i 1) (.b false) (.u 9223372036854775808) (.i (-63)); have HB3 := hL w HB1 (Nat.le_refl _); obtain ⟨⟨q0, q1, q2, q3⟩, ⟨f0, f1, f2, f3⟩⟩ := BR1.c4; clear hb BR1 HB1 hL hzz)
 exact bodyPost_ret (results_cell_row rfl _ _ w.heap.size 32 #[.i 1, .b false, .u 9223372036854775808, .i (-63)] (0, 0) _ rfl B3 Tryz.underlying32 rfl (by kernel_rfl)) rfl ⟨rfl, HB3⟩
set_option maxRecDepth 100000 in
set_option maxHeartbeats 2000000 in
theorem len_0 (w : World) : Calls Tryz.prog 33 #[.u 0] w fun e w' => e = .returned (.i 0) ∧ Below w.heap.size w w' := by
 go_enter Tryz.func33, Tryz.ntmps33
 go_wp2
 go_ret
 exact ⟨by first | rfl | kernel_rfl, Below.refl _ _⟩
theorem lead_0 (w : World) : Calls Tryz.prog 21 #[.u 0] w fun e w' => e = .returned (.i 64) ∧ Below w.heap.size w w' := by
 go_enter Tryz.func21, Tryz.ntmps21
 go_wp2_with (go_at_call 33; refine (len_0 _).mono ?_; rintro e w1 ⟨rfl, hb⟩)
 go_ret
 exact ⟨by rfl, hb⟩
set_option maxRecDepth 100000 in
set_option maxHeartbeats 2000000 in
theorem of_0 (w : World) :
  Calls Tryz.prog 9 #[.i 0] w fun e w' => e = .returned (.agg #[.i 0, .b false, .u 0, .i 0]) ∧ Below w.heap.size w w' := by
 go_enter Tryz.func9, Tryz.ntmps9
 go_wp2_with (go_at_call 21; refine (lead_0 _).mono ?_; rintro e w1 ⟨rfl, hb⟩; have BR1 := (Blk.new w _ _).call hb; have HB1 := bl_trans (bl_alloc (Below.refl w.heap.size w) _) hb; obtain ⟨W3, hW3, B3, _, hL, hzz⟩ := put4 BR1 (.i 0) (.b false) (.u 0) (.i 0); have HB3 := hL w HB1 (Nat.le_refl _); obtain ⟨⟨q0, q1, q2, q3⟩, ⟨f0, f1, f2, f3⟩⟩ := BR1.c4; clear hb BR1 HB1 hL hzz)
 exact bodyPost_ret (results_cell_row rfl _ _ w.heap.size 32 #[.i 0, .b false, .u 0, .i 0] (0, 0) _ rfl B3 Tryz.underlying32 rfl (by kernel_rfl)) rfl ⟨rfl, HB3⟩
end Go.Proofs.YteabdeohhmbclaaGreat.Wk
namespace Go.Proofs.YteabdeohhmbclaaGreat.Wk
open Go.RowKit Go.Proofs.Pl Go.Proofs.YteabdeohhmbclaaGreatW.PrintLast
set_option linter.unusedSimpArgs false
set_option linter.unusedVariables false

theorem SlI.lit2 {w : World} {g B : Nat} {T : TypeId} {x y : Iv} (h : Blk w g T #[.b x.emp, .i x.lo.k, .b x.lo.n, .u x.lo.m, .i x.lo.e, .i x.hi.k, .b x.hi.n, .u x.hi.m, .i x.hi.e, .b y.emp, .i y.lo.k, .b y.lo.n, .u y.lo.m, .i y.lo.e, .i y.hi.k, .b y.hi.n, .u y.hi.m, .i y.hi.e]) (hB : g < B) :
  SlI w B (some ⟨g, 0, none⟩) 2 [x, y] := by
 refine ⟨rfl, fun _ => ⟨g, 0, rfl, hB, fun i z hz => ?_⟩⟩
 match i, hz with
 | 0, hz =>
  simp only [List.getElem?_cons_zero, Option.some.injEq] at hz
  subst hz
  exact ⟨h.cell 0, h.cell 1, h.cell 2, h.cell 3, h.cell 4, h.cell 5, h.cell 6, h.cell 7, h.cell 8⟩
 | 1, hz =>
  simp only [List.getElem?_cons_succ, List.getElem?_cons_zero, Option.some.injEq] at hz
  subst hz
  exact ⟨h.cell 9, h.cell 10, h.cell 11, h.cell 12, h.cell 13, h.cell 14, h.cell 15, h.cell 16, h.cell 17⟩
 | i + 2, hz => simp at hz

end Go.Proofs.YteabdeohhmbclaaGreat.Wk
