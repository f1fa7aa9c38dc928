/- Walks: num.Of at 0, 1, 2, 3, 4, and peloruslaw08.Of at pairs of these. -/
import Derived.Test.YtagojbgmgkkdpaaGreatIvB
namespace Go.Proofs.YtagojbgmgkkdpaaGreat.Wk
open Go.RowKit Go.Proofs.Pl
set_option linter.unusedSimpArgs false
set_option linter.unusedVariables false

set_option maxRecDepth 100000 in
set_option maxHeartbeats 2000000 in
theorem len_1 (w : World) : Calls Tryz.prog 87 #[.int .u64 1] w fun e w' => e = .returned (.int .i64 1) ∧ Below w.heap.size w w' := by
 go_enter Tryz.func87, Tryz.ntmps87
 go_wp2
 go_ret
 exact ⟨by first | rfl | kernel_rfl, Below.refl _ _⟩
theorem lead_1 (w : World) : Calls Tryz.prog 62 #[.int .u64 1] w fun e w' => e = .returned (.int .i64 63) ∧ Below w.heap.size w w' := by
 go_enter Tryz.func62, Tryz.ntmps62
 go_wp2_with (go_at_call 87; refine (len_1 _).mono ?_; rintro e w1 ⟨rfl, hb⟩)
 go_ret
 exact ⟨by rfl, hb⟩
set_option maxRecDepth 100000 in
set_option maxHeartbeats 2000000 in
theorem of_1 (w : World) :
  Calls Tryz.prog 31 #[.int .i64 1] w fun e w' => e = .returned (.agg #[.int .i64 1, .bool false, .int .u64 9223372036854775808, .int .i64 (-63)]) ∧ Below w.heap.size w w' := by
 go_enter Tryz.func31, Tryz.ntmps31
 go_wp2_with (go_at_call 62; refine (lead_1 _).mono ?_; rintro e w1 ⟨rfl, hb⟩; have BR1 := (Blk.new w _ _).call hb; have HB1 := bl_trans (bl_alloc (Below.refl w.heap.size w) _) hb; obtain ⟨W3, hW3, B3, _, hL, hzz⟩ := put4 BR1 (.int .i64 1) (.bool false) (.int .u64 9223372036854775808) (.int .i64 (-63)); have HB3 := hL w HB1 (Nat.le_refl _); obtain ⟨⟨q0, q1, q2, q3⟩, ⟨f0, f1, f2, f3⟩⟩ := BR1.c4; clear hb BR1 HB1 hL hzz)
 exact bodyPost_ret (results_cell_row rfl _ _ w.heap.size 37 #[.int .i64 1, .bool false, .int .u64 9223372036854775808, .int .i64 (-63)] (0, 0) _ rfl B3 Tryz.underlying37 rfl (by kernel_rfl)) rfl ⟨rfl, HB3⟩
set_option maxRecDepth 100000 in
set_option maxHeartbeats 2000000 in
theorem len_2 (w : World) : Calls Tryz.prog 87 #[.int .u64 2] w fun e w' => e = .returned (.int .i64 2) ∧ Below w.heap.size w w' := by
 go_enter Tryz.func87, Tryz.ntmps87
 go_wp2
 go_ret
 exact ⟨by first | rfl | kernel_rfl, Below.refl _ _⟩
theorem lead_2 (w : World) : Calls Tryz.prog 62 #[.int .u64 2] w fun e w' => e = .returned (.int .i64 62) ∧ Below w.heap.size w w' := by
 go_enter Tryz.func62, Tryz.ntmps62
 go_wp2_with (go_at_call 87; refine (len_2 _).mono ?_; rintro e w1 ⟨rfl, hb⟩)
 go_ret
 exact ⟨by rfl, hb⟩
set_option maxRecDepth 100000 in
set_option maxHeartbeats 2000000 in
theorem of_2 (w : World) :
  Calls Tryz.prog 31 #[.int .i64 2] w fun e w' => e = .returned (.agg #[.int .i64 1, .bool false, .int .u64 9223372036854775808, .int .i64 (-62)]) ∧ Below w.heap.size w w' := by
 go_enter Tryz.func31, Tryz.ntmps31
 go_wp2_with (go_at_call 62; refine (lead_2 _).mono ?_; rintro e w1 ⟨rfl, hb⟩; have BR1 := (Blk.new w _ _).call hb; have HB1 := bl_trans (bl_alloc (Below.refl w.heap.size w) _) hb; obtain ⟨W3, hW3, B3, _, hL, hzz⟩ := put4 BR1 (.int .i64 1) (.bool false) (.int .u64 9223372036854775808) (.int .i64 (-62)); have HB3 := hL w HB1 (Nat.le_refl _); obtain ⟨⟨q0, q1, q2, q3⟩, ⟨f0, f1, f2, f3⟩⟩ := BR1.c4; clear hb BR1 HB1 hL hzz)
 exact bodyPost_ret (results_cell_row rfl _ _ w.heap.size 37 #[.int .i64 1, .bool false, .int .u64 9223372036854775808, .int .i64 (-62)] (0, 0) _ rfl B3 Tryz.underlying37 rfl (by kernel_rfl)) rfl ⟨rfl, HB3⟩
set_option maxRecDepth 100000 in
set_option maxHeartbeats 2000000 in
theorem len_3 (w : World) : Calls Tryz.prog 87 #[.int .u64 3] w fun e w' => e = .returned (.int .i64 2) ∧ Below w.heap.size w w' := by
 go_enter Tryz.func87, Tryz.ntmps87
 go_wp2
 go_ret
 exact ⟨by first | rfl | kernel_rfl, Below.refl _ _⟩
theorem lead_3 (w : World) : Calls Tryz.prog 62 #[.int .u64 3] w fun e w' => e = .returned (.int .i64 62) ∧ Below w.heap.size w w' := by
 go_enter Tryz.func62, Tryz.ntmps62
 go_wp2_with (go_at_call 87; refine (len_3 _).mono ?_; rintro e w1 ⟨rfl, hb⟩)
 go_ret
 exact ⟨by rfl, hb⟩
set_option maxRecDepth 100000 in
set_option maxHeartbeats 2000000 in
theorem of_3 (w : World) :
  Calls Tryz.prog 31 #[.int .i64 3] w fun e w' => e = .returned (.agg #[.int .i64 1, .bool false, .int .u64 13835058055282163712, .int .i64 (-62)]) ∧ Below w.heap.size w w' := by
 go_enter Tryz.func31, Tryz.ntmps31
 go_wp2_with (go_at_call 62; refine (lead_3 _).mono ?_; rintro e w1 ⟨rfl, hb⟩; have BR1 := (Blk.new w _ _).call hb; have HB1 := bl_trans (bl_alloc (Below.refl w.heap.size w) _) hb; obtain ⟨W3, hW3, B3, _, hL, hzz⟩ := put4 BR1 (.int .i64 1) (.bool false) (.int .u64 13835058055282163712) (.int .i64 (-62)); have HB3 := hL w HB1 (Nat.le_refl _); obtain ⟨⟨q0, q1, q2, q3⟩, ⟨f0, f1, f2, f3⟩⟩ := BR1.c4; clear hb BR1 HB1 hL hzz)
 exact bodyPost_ret (results_cell_row rfl _ _ w.heap.size 37 #[.int .i64 1, .bool false, .int .u64 13835058055282163712, .int .i64 (-62)] (0, 0) _ rfl B3 Tryz.underlying37 rfl (by kernel_rfl)) rfl ⟨rfl, HB3⟩
set_option maxRecDepth 100000 in
set_option maxHeartbeats 2000000 in
theorem len_4 (w : World) : Calls Tryz.prog 87 #[.int .u64 4] w fun e w' => e = .returned (.int .i64 3) ∧ Below w.heap.size w w' := by
 go_enter Tryz.func87, Tryz.ntmps87
 go_wp2
 go_ret
 exact ⟨by first | rfl | kernel_rfl, Below.refl _ _⟩
theorem lead_4 (w : World) : Calls Tryz.prog 62 #[.int .u64 4] w fun e w' => e = .returned (.int .i64 61) ∧ Below w.heap.size w w' := by
 go_enter Tryz.func62, Tryz.ntmps62
 go_wp2_with (go_at_call 87; refine (len_4 _).mono ?_; rintro e w1 ⟨rfl, hb⟩)
 go_ret
 exact ⟨by rfl, hb⟩
set_option maxRecDepth 100000 in
set_option maxHeartbeats 2000000 in
theorem of_4 (w : World) :
  Calls Tryz.prog 31 #[.int .i64 4] w fun e w' => e = .returned (.agg #[.int .i64 1, .bool false, .int .u64 9223372036854775808, .int .i64 (-61)]) ∧ Below w.heap.size w w' := by
 go_enter Tryz.func31, Tryz.ntmps31
 go_wp2_with (go_at_call 62; refine (lead_4 _).mono ?_; rintro e w1 ⟨rfl, hb⟩; have BR1 := (Blk.new w _ _).call hb; have HB1 := bl_trans (bl_alloc (Below.refl w.heap.size w) _) hb; obtain ⟨W3, hW3, B3, _, hL, hzz⟩ := put4 BR1 (.int .i64 1) (.bool false) (.int .u64 9223372036854775808) (.int .i64 (-61)); have HB3 := hL w HB1 (Nat.le_refl _); obtain ⟨⟨q0, q1, q2, q3⟩, ⟨f0, f1, f2, f3⟩⟩ := BR1.c4; clear hb BR1 HB1 hL hzz)
 exact bodyPost_ret (results_cell_row rfl _ _ w.heap.size 37 #[.int .i64 1, .bool false, .int .u64 9223372036854775808, .int .i64 (-61)] (0, 0) _ rfl B3 Tryz.underlying37 rfl (by kernel_rfl)) rfl ⟨rfl, HB3⟩
set_option maxRecDepth 100000 in
set_option maxHeartbeats 2000000 in
theorem len_0 (w : World) : Calls Tryz.prog 87 #[.int .u64 0] w fun e w' => e = .returned (.int .i64 0) ∧ Below w.heap.size w w' := by
 go_enter Tryz.func87, Tryz.ntmps87
 go_wp2
 go_ret
 exact ⟨by first | rfl | kernel_rfl, Below.refl _ _⟩
theorem lead_0 (w : World) : Calls Tryz.prog 62 #[.int .u64 0] w fun e w' => e = .returned (.int .i64 64) ∧ Below w.heap.size w w' := by
 go_enter Tryz.func62, Tryz.ntmps62
 go_wp2_with (go_at_call 87; refine (len_0 _).mono ?_; rintro e w1 ⟨rfl, hb⟩)
 go_ret
 exact ⟨by rfl, hb⟩
set_option maxRecDepth 100000 in
set_option maxHeartbeats 2000000 in
theorem of_0 (w : World) :
  Calls Tryz.prog 31 #[.int .i64 0] w fun e w' => e = .returned (.agg #[.int .i64 0, .bool false, .int .u64 0, .int .i64 0]) ∧ Below w.heap.size w w' := by
 go_enter Tryz.func31, Tryz.ntmps31
 go_wp2_with (go_at_call 62; refine (lead_0 _).mono ?_; rintro e w1 ⟨rfl, hb⟩; have BR1 := (Blk.new w _ _).call hb; have HB1 := bl_trans (bl_alloc (Below.refl w.heap.size w) _) hb; obtain ⟨W3, hW3, B3, _, hL, hzz⟩ := put4 BR1 (.int .i64 0) (.bool false) (.int .u64 0) (.int .i64 0); have HB3 := hL w HB1 (Nat.le_refl _); obtain ⟨⟨q0, q1, q2, q3⟩, ⟨f0, f1, f2, f3⟩⟩ := BR1.c4; clear hb BR1 HB1 hL hzz)
 exact bodyPost_ret (results_cell_row rfl _ _ w.heap.size 37 #[.int .i64 0, .bool false, .int .u64 0, .int .i64 0] (0, 0) _ rfl B3 Tryz.underlying37 rfl (by kernel_rfl)) rfl ⟨rfl, HB3⟩
set_option maxRecDepth 100000 in
set_option maxHeartbeats 2000000 in
theorem ofI_0_2 (w : World) : Calls Tryz.prog 15 #[.int .i64 0, .int .i64 2] w fun e w' => e = .returned (.agg #[.bool false, .int .i64 0, .bool false, .int .u64 0, .int .i64 0, .int .i64 1, .bool false, .int .u64 9223372036854775808, .int .i64 (-62)]) ∧ Below w.heap.size w w' := by
 have HM := Lib.hid (fun W => makeI_calls 0 false 0 0 1 false 9223372036854775808 (-62) W)
 rw [show makeI ⟨0, false, 0, 0⟩ ⟨1, false, 9223372036854775808, (-62)⟩ = ⟨false, ⟨0, false, 0, 0⟩, ⟨1, false, 9223372036854775808, (-62)⟩⟩ from by decide +kernel] at HM
 go_enter Tryz.func15, Tryz.ntmps15
 go_wp2_with (first
  | (go_at_call 31; first | ((with_reducible refine (of_0 _).mono ?_); rintro e w1 ⟨rfl, hb⟩; have BR1 := (Blk.new w _ _).call hb; have HB1 := bl_trans (bl_alloc (Below.refl w.heap.size w) _) hb; clear hb) | ((with_reducible refine (of_2 _).mono ?_); rintro e w2 ⟨rfl, hb⟩; have BR2 := BR1.call hb; have HB2 := bl_trans HB1 hb; clear hb BR1 HB1))
  | (go_at_call 36; refine (HM.out _).mono ?_; rintro e w3 ⟨rfl, hb⟩; have BR3 := BR2.call hb; have HB3 := bl_trans HB2 hb; obtain ⟨W4, hW4, B4, _, hL, hzz⟩ := put9 BR3 (.bool false) (.int .i64 0) (.bool false) (.int .u64 0) (.int .i64 0) (.int .i64 1) (.bool false) (.int .u64 9223372036854775808) (.int .i64 (-62)); have HB4 := hL w HB3 (Nat.le_refl _); obtain ⟨⟨q0, q1, q2, q3, q4, q5, q6, q7, q8⟩, ⟨f0, f1, f2, f3, f4, f5, f6, f7, f8⟩⟩ := BR3.c9; clear hb BR2 BR3 HB2 HB3 hL hzz))
 exact bodyPost_ret (results_cell_row rfl _ _ w.heap.size 39 #[.bool false, .int .i64 0, .bool false, .int .u64 0, .int .i64 0, .int .i64 1, .bool false, .int .u64 9223372036854775808, .int .i64 (-62)] (0, 0) _ rfl B4 Tryz.underlying39 rfl (by kernel_rfl)) rfl ⟨rfl, HB4⟩
set_option maxRecDepth 100000 in
set_option maxHeartbeats 2000000 in
theorem ofI_1_3 (w : World) : Calls Tryz.prog 15 #[.int .i64 1, .int .i64 3] w fun e w' => e = .returned (.agg #[.bool false, .int .i64 1, .bool false, .int .u64 9223372036854775808, .int .i64 (-63), .int .i64 1, .bool false, .int .u64 13835058055282163712, .int .i64 (-62)]) ∧ Below w.heap.size w w' := by
 have HM := Lib.hid (fun W => makeI_calls 1 false 9223372036854775808 (-63) 1 false 13835058055282163712 (-62) W)
 rw [show makeI ⟨1, false, 9223372036854775808, (-63)⟩ ⟨1, false, 13835058055282163712, (-62)⟩ = ⟨false, ⟨1, false, 9223372036854775808, (-63)⟩, ⟨1, false, 13835058055282163712, (-62)⟩⟩ from by decide +kernel] at HM
 go_enter Tryz.func15, Tryz.ntmps15
 go_wp2_with (first
  | (go_at_call 31; first | ((with_reducible refine (of_1 _).mono ?_); rintro e w1 ⟨rfl, hb⟩; have BR1 := (Blk.new w _ _).call hb; have HB1 := bl_trans (bl_alloc (Below.refl w.heap.size w) _) hb; clear hb) | ((with_reducible refine (of_3 _).mono ?_); rintro e w2 ⟨rfl, hb⟩; have BR2 := BR1.call hb; have HB2 := bl_trans HB1 hb; clear hb BR1 HB1))
  | (go_at_call 36; refine (HM.out _).mono ?_; rintro e w3 ⟨rfl, hb⟩; have BR3 := BR2.call hb; have HB3 := bl_trans HB2 hb; obtain ⟨W4, hW4, B4, _, hL, hzz⟩ := put9 BR3 (.bool false) (.int .i64 1) (.bool false) (.int .u64 9223372036854775808) (.int .i64 (-63)) (.int .i64 1) (.bool false) (.int .u64 13835058055282163712) (.int .i64 (-62)); have HB4 := hL w HB3 (Nat.le_refl _); obtain ⟨⟨q0, q1, q2, q3, q4, q5, q6, q7, q8⟩, ⟨f0, f1, f2, f3, f4, f5, f6, f7, f8⟩⟩ := BR3.c9; clear hb BR2 BR3 HB2 HB3 hL hzz))
 exact bodyPost_ret (results_cell_row rfl _ _ w.heap.size 39 #[.bool false, .int .i64 1, .bool false, .int .u64 9223372036854775808, .int .i64 (-63), .int .i64 1, .bool false, .int .u64 13835058055282163712, .int .i64 (-62)] (0, 0) _ rfl B4 Tryz.underlying39 rfl (by kernel_rfl)) rfl ⟨rfl, HB4⟩
set_option maxRecDepth 100000 in
set_option maxHeartbeats 2000000 in
theorem ofI_1_2 (w : World) : Calls Tryz.prog 15 #[.int .i64 1, .int .i64 2] w fun e w' => e = .returned (.agg #[.bool false, .int .i64 1, .bool false, .int .u64 9223372036854775808, .int .i64 (-63), .int .i64 1, .bool false, .int .u64 9223372036854775808, .int .i64 (-62)]) ∧ Below w.heap.size w w' := by
 have HM := Lib.hid (fun W => makeI_calls 1 false 9223372036854775808 (-63) 1 false 9223372036854775808 (-62) W)
 rw [show makeI ⟨1, false, 9223372036854775808, (-63)⟩ ⟨1, false, 9223372036854775808, (-62)⟩ = ⟨false, ⟨1, false, 9223372036854775808, (-63)⟩, ⟨1, false, 9223372036854775808, (-62)⟩⟩ from by decide +kernel] at HM
 go_enter Tryz.func15, Tryz.ntmps15
 go_wp2_with (first
  | (go_at_call 31; first | ((with_reducible refine (of_1 _).mono ?_); rintro e w1 ⟨rfl, hb⟩; have BR1 := (Blk.new w _ _).call hb; have HB1 := bl_trans (bl_alloc (Below.refl w.heap.size w) _) hb; clear hb) | ((with_reducible refine (of_2 _).mono ?_); rintro e w2 ⟨rfl, hb⟩; have BR2 := BR1.call hb; have HB2 := bl_trans HB1 hb; clear hb BR1 HB1))
  | (go_at_call 36; refine (HM.out _).mono ?_; rintro e w3 ⟨rfl, hb⟩; have BR3 := BR2.call hb; have HB3 := bl_trans HB2 hb; obtain ⟨W4, hW4, B4, _, hL, hzz⟩ := put9 BR3 (.bool false) (.int .i64 1) (.bool false) (.int .u64 9223372036854775808) (.int .i64 (-63)) (.int .i64 1) (.bool false) (.int .u64 9223372036854775808) (.int .i64 (-62)); have HB4 := hL w HB3 (Nat.le_refl _); obtain ⟨⟨q0, q1, q2, q3, q4, q5, q6, q7, q8⟩, ⟨f0, f1, f2, f3, f4, f5, f6, f7, f8⟩⟩ := BR3.c9; clear hb BR2 BR3 HB2 HB3 hL hzz))
 exact bodyPost_ret (results_cell_row rfl _ _ w.heap.size 39 #[.bool false, .int .i64 1, .bool false, .int .u64 9223372036854775808, .int .i64 (-63), .int .i64 1, .bool false, .int .u64 9223372036854775808, .int .i64 (-62)] (0, 0) _ rfl B4 Tryz.underlying39 rfl (by kernel_rfl)) rfl ⟨rfl, HB4⟩
set_option maxRecDepth 100000 in
set_option maxHeartbeats 2000000 in
theorem ofI_0_1 (w : World) : Calls Tryz.prog 15 #[.int .i64 0, .int .i64 1] w fun e w' => e = .returned (.agg #[.bool false, .int .i64 0, .bool false, .int .u64 0, .int .i64 0, .int .i64 1, .bool false, .int .u64 9223372036854775808, .int .i64 (-63)]) ∧ Below w.heap.size w w' := by
 have HM := Lib.hid (fun W => makeI_calls 0 false 0 0 1 false 9223372036854775808 (-63) W)
 rw [show makeI ⟨0, false, 0, 0⟩ ⟨1, false, 9223372036854775808, (-63)⟩ = ⟨false, ⟨0, false, 0, 0⟩, ⟨1, false, 9223372036854775808, (-63)⟩⟩ from by decide +kernel] at HM
 go_enter Tryz.func15, Tryz.ntmps15
 go_wp2_with (first
  | (go_at_call 31; first | ((with_reducible refine (of_0 _).mono ?_); rintro e w1 ⟨rfl, hb⟩; have BR1 := (Blk.new w _ _).call hb; have HB1 := bl_trans (bl_alloc (Below.refl w.heap.size w) _) hb; clear hb) | ((with_reducible refine (of_1 _).mono ?_); rintro e w2 ⟨rfl, hb⟩; have BR2 := BR1.call hb; have HB2 := bl_trans HB1 hb; clear hb BR1 HB1))
  | (go_at_call 36; refine (HM.out _).mono ?_; rintro e w3 ⟨rfl, hb⟩; have BR3 := BR2.call hb; have HB3 := bl_trans HB2 hb; obtain ⟨W4, hW4, B4, _, hL, hzz⟩ := put9 BR3 (.bool false) (.int .i64 0) (.bool false) (.int .u64 0) (.int .i64 0) (.int .i64 1) (.bool false) (.int .u64 9223372036854775808) (.int .i64 (-63)); have HB4 := hL w HB3 (Nat.le_refl _); obtain ⟨⟨q0, q1, q2, q3, q4, q5, q6, q7, q8⟩, ⟨f0, f1, f2, f3, f4, f5, f6, f7, f8⟩⟩ := BR3.c9; clear hb BR2 BR3 HB2 HB3 hL hzz))
 exact bodyPost_ret (results_cell_row rfl _ _ w.heap.size 39 #[.bool false, .int .i64 0, .bool false, .int .u64 0, .int .i64 0, .int .i64 1, .bool false, .int .u64 9223372036854775808, .int .i64 (-63)] (0, 0) _ rfl B4 Tryz.underlying39 rfl (by kernel_rfl)) rfl ⟨rfl, HB4⟩
set_option maxRecDepth 100000 in
set_option maxHeartbeats 2000000 in
theorem ofI_3_4 (w : World) : Calls Tryz.prog 15 #[.int .i64 3, .int .i64 4] w fun e w' => e = .returned (.agg #[.bool false, .int .i64 1, .bool false, .int .u64 13835058055282163712, .int .i64 (-62), .int .i64 1, .bool false, .int .u64 9223372036854775808, .int .i64 (-61)]) ∧ Below w.heap.size w w' := by
 have HM := Lib.hid (fun W => makeI_calls 1 false 13835058055282163712 (-62) 1 false 9223372036854775808 (-61) W)
 rw [show makeI ⟨1, false, 13835058055282163712, (-62)⟩ ⟨1, false, 9223372036854775808, (-61)⟩ = ⟨false, ⟨1, false, 13835058055282163712, (-62)⟩, ⟨1, false, 9223372036854775808, (-61)⟩⟩ from by decide +kernel] at HM
 go_enter Tryz.func15, Tryz.ntmps15
 go_wp2_with (first
  | (go_at_call 31; first | ((with_reducible refine (of_3 _).mono ?_); rintro e w1 ⟨rfl, hb⟩; have BR1 := (Blk.new w _ _).call hb; have HB1 := bl_trans (bl_alloc (Below.refl w.heap.size w) _) hb; clear hb) | ((with_reducible refine (of_4 _).mono ?_); rintro e w2 ⟨rfl, hb⟩; have BR2 := BR1.call hb; have HB2 := bl_trans HB1 hb; clear hb BR1 HB1))
  | (go_at_call 36; refine (HM.out _).mono ?_; rintro e w3 ⟨rfl, hb⟩; have BR3 := BR2.call hb; have HB3 := bl_trans HB2 hb; obtain ⟨W4, hW4, B4, _, hL, hzz⟩ := put9 BR3 (.bool false) (.int .i64 1) (.bool false) (.int .u64 13835058055282163712) (.int .i64 (-62)) (.int .i64 1) (.bool false) (.int .u64 9223372036854775808) (.int .i64 (-61)); have HB4 := hL w HB3 (Nat.le_refl _); obtain ⟨⟨q0, q1, q2, q3, q4, q5, q6, q7, q8⟩, ⟨f0, f1, f2, f3, f4, f5, f6, f7, f8⟩⟩ := BR3.c9; clear hb BR2 BR3 HB2 HB3 hL hzz))
 exact bodyPost_ret (results_cell_row rfl _ _ w.heap.size 39 #[.bool false, .int .i64 1, .bool false, .int .u64 13835058055282163712, .int .i64 (-62), .int .i64 1, .bool false, .int .u64 9223372036854775808, .int .i64 (-61)] (0, 0) _ rfl B4 Tryz.underlying39 rfl (by kernel_rfl)) rfl ⟨rfl, HB4⟩
set_option maxRecDepth 100000 in
set_option maxHeartbeats 2000000 in
theorem ofI_0_4 (w : World) : Calls Tryz.prog 15 #[.int .i64 0, .int .i64 4] w fun e w' => e = .returned (.agg #[.bool false, .int .i64 0, .bool false, .int .u64 0, .int .i64 0, .int .i64 1, .bool false, .int .u64 9223372036854775808, .int .i64 (-61)]) ∧ Below w.heap.size w w' := by
 have HM := Lib.hid (fun W => makeI_calls 0 false 0 0 1 false 9223372036854775808 (-61) W)
 rw [show makeI ⟨0, false, 0, 0⟩ ⟨1, false, 9223372036854775808, (-61)⟩ = ⟨false, ⟨0, false, 0, 0⟩, ⟨1, false, 9223372036854775808, (-61)⟩⟩ from by decide +kernel] at HM
 go_enter Tryz.func15, Tryz.ntmps15
 go_wp2_with (first
  | (go_at_call 31; first | ((with_reducible refine (of_0 _).mono ?_); rintro e w1 ⟨rfl, hb⟩; have BR1 := (Blk.new w _ _).call hb; have HB1 := bl_trans (bl_alloc (Below.refl w.heap.size w) _) hb; clear hb) | ((with_reducible refine (of_4 _).mono ?_); rintro e w2 ⟨rfl, hb⟩; have BR2 := BR1.call hb; have HB2 := bl_trans HB1 hb; clear hb BR1 HB1))
  | (go_at_call 36; refine (HM.out _).mono ?_; rintro e w3 ⟨rfl, hb⟩; have BR3 := BR2.call hb; have HB3 := bl_trans HB2 hb; obtain ⟨W4, hW4, B4, _, hL, hzz⟩ := put9 BR3 (.bool false) (.int .i64 0) (.bool false) (.int .u64 0) (.int .i64 0) (.int .i64 1) (.bool false) (.int .u64 9223372036854775808) (.int .i64 (-61)); have HB4 := hL w HB3 (Nat.le_refl _); obtain ⟨⟨q0, q1, q2, q3, q4, q5, q6, q7, q8⟩, ⟨f0, f1, f2, f3, f4, f5, f6, f7, f8⟩⟩ := BR3.c9; clear hb BR2 BR3 HB2 HB3 hL hzz))
 exact bodyPost_ret (results_cell_row rfl _ _ w.heap.size 39 #[.bool false, .int .i64 0, .bool false, .int .u64 0, .int .i64 0, .int .i64 1, .bool false, .int .u64 9223372036854775808, .int .i64 (-61)] (0, 0) _ rfl B4 Tryz.underlying39 rfl (by kernel_rfl)) rfl ⟨rfl, HB4⟩
set_option maxRecDepth 100000 in
set_option maxHeartbeats 2000000 in
theorem ofI_2_3 (w : World) : Calls Tryz.prog 15 #[.int .i64 2, .int .i64 3] w fun e w' => e = .returned (.agg #[.bool false, .int .i64 1, .bool false, .int .u64 9223372036854775808, .int .i64 (-62), .int .i64 1, .bool false, .int .u64 13835058055282163712, .int .i64 (-62)]) ∧ Below w.heap.size w w' := by
 have HM := Lib.hid (fun W => makeI_calls 1 false 9223372036854775808 (-62) 1 false 13835058055282163712 (-62) W)
 rw [show makeI ⟨1, false, 9223372036854775808, (-62)⟩ ⟨1, false, 13835058055282163712, (-62)⟩ = ⟨false, ⟨1, false, 9223372036854775808, (-62)⟩, ⟨1, false, 13835058055282163712, (-62)⟩⟩ from by decide +kernel] at HM
 go_enter Tryz.func15, Tryz.ntmps15
 go_wp2_with (first
  | (go_at_call 31; first | ((with_reducible refine (of_2 _).mono ?_); rintro e w1 ⟨rfl, hb⟩; have BR1 := (Blk.new w _ _).call hb; have HB1 := bl_trans (bl_alloc (Below.refl w.heap.size w) _) hb; clear hb) | ((with_reducible refine (of_3 _).mono ?_); rintro e w2 ⟨rfl, hb⟩; have BR2 := BR1.call hb; have HB2 := bl_trans HB1 hb; clear hb BR1 HB1))
  | (go_at_call 36; refine (HM.out _).mono ?_; rintro e w3 ⟨rfl, hb⟩; have BR3 := BR2.call hb; have HB3 := bl_trans HB2 hb; obtain ⟨W4, hW4, B4, _, hL, hzz⟩ := put9 BR3 (.bool false) (.int .i64 1) (.bool false) (.int .u64 9223372036854775808) (.int .i64 (-62)) (.int .i64 1) (.bool false) (.int .u64 13835058055282163712) (.int .i64 (-62)); have HB4 := hL w HB3 (Nat.le_refl _); obtain ⟨⟨q0, q1, q2, q3, q4, q5, q6, q7, q8⟩, ⟨f0, f1, f2, f3, f4, f5, f6, f7, f8⟩⟩ := BR3.c9; clear hb BR2 BR3 HB2 HB3 hL hzz))
 exact bodyPost_ret (results_cell_row rfl _ _ w.heap.size 39 #[.bool false, .int .i64 1, .bool false, .int .u64 9223372036854775808, .int .i64 (-62), .int .i64 1, .bool false, .int .u64 13835058055282163712, .int .i64 (-62)] (0, 0) _ rfl B4 Tryz.underlying39 rfl (by kernel_rfl)) rfl ⟨rfl, HB4⟩
set_option maxRecDepth 100000 in
set_option maxHeartbeats 2000000 in
theorem ofI_0_3 (w : World) : Calls Tryz.prog 15 #[.int .i64 0, .int .i64 3] w fun e w' => e = .returned (.agg #[.bool false, .int .i64 0, .bool false, .int .u64 0, .int .i64 0, .int .i64 1, .bool false, .int .u64 13835058055282163712, .int .i64 (-62)]) ∧ Below w.heap.size w w' := by
 have HM := Lib.hid (fun W => makeI_calls 0 false 0 0 1 false 13835058055282163712 (-62) W)
 rw [show makeI ⟨0, false, 0, 0⟩ ⟨1, false, 13835058055282163712, (-62)⟩ = ⟨false, ⟨0, false, 0, 0⟩, ⟨1, false, 13835058055282163712, (-62)⟩⟩ from by decide +kernel] at HM
 go_enter Tryz.func15, Tryz.ntmps15
 go_wp2_with (first
  | (go_at_call 31; first | ((with_reducible refine (of_0 _).mono ?_); rintro e w1 ⟨rfl, hb⟩; have BR1 := (Blk.new w _ _).call hb; have HB1 := bl_trans (bl_alloc (Below.refl w.heap.size w) _) hb; clear hb) | ((with_reducible refine (of_3 _).mono ?_); rintro e w2 ⟨rfl, hb⟩; have BR2 := BR1.call hb; have HB2 := bl_trans HB1 hb; clear hb BR1 HB1))
  | (go_at_call 36; refine (HM.out _).mono ?_; rintro e w3 ⟨rfl, hb⟩; have BR3 := BR2.call hb; have HB3 := bl_trans HB2 hb; obtain ⟨W4, hW4, B4, _, hL, hzz⟩ := put9 BR3 (.bool false) (.int .i64 0) (.bool false) (.int .u64 0) (.int .i64 0) (.int .i64 1) (.bool false) (.int .u64 13835058055282163712) (.int .i64 (-62)); have HB4 := hL w HB3 (Nat.le_refl _); obtain ⟨⟨q0, q1, q2, q3, q4, q5, q6, q7, q8⟩, ⟨f0, f1, f2, f3, f4, f5, f6, f7, f8⟩⟩ := BR3.c9; clear hb BR2 BR3 HB2 HB3 hL hzz))
 exact bodyPost_ret (results_cell_row rfl _ _ w.heap.size 39 #[.bool false, .int .i64 0, .bool false, .int .u64 0, .int .i64 0, .int .i64 1, .bool false, .int .u64 13835058055282163712, .int .i64 (-62)] (0, 0) _ rfl B4 Tryz.underlying39 rfl (by kernel_rfl)) rfl ⟨rfl, HB4⟩
end Go.Proofs.YtagojbgmgkkdpaaGreat.Wk
