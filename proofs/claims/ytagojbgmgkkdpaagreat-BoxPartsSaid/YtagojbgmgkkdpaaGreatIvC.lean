/- Walks: iv.Within, iv.Has, for every input (no condition). -/
import Derived.Test.YtagojbgmgkkdpaaGreatIvB
namespace Go.Proofs.YtagojbgmgkkdpaaGreat.Wk
open Go.RowKit Go.Proofs.Pl Go.Proofs.YtagojbgmgkkdpaaGreatW.PrintLast
set_option linter.unusedSimpArgs false
set_option linter.unusedVariables false

set_option maxRecDepth 100000 in
set_option maxHeartbeats 8000000 in
theorem withinI_calls (a0 : Bool) (a1 : Int) (a2 : Bool) (a3 a4 a5 : Int) (a6 : Bool) (a7 a8 : Int) (b0 : Bool) (b1 : Int) (b2 : Bool) (b3 b4 b5 : Int) (b6 : Bool) (b7 b8 : Int) (w : World) :
  Calls Tryz.prog 148 #[.agg #[.bool a0, .int .i64 a1, .bool a2, .int .u64 a3, .int .i64 a4, .int .i64 a5, .bool a6, .int .u64 a7, .int .i64 a8], .agg #[.bool b0, .int .i64 b1, .bool b2, .int .u64 b3, .int .i64 b4, .int .i64 b5, .bool b6, .int .u64 b7, .int .i64 b8]] w fun e w' => e = .returned (.bool (withinI ⟨a0, ⟨a1, a2, a3, a4⟩, ⟨a5, a6, a7, a8⟩⟩ ⟨b0, ⟨b1, b2, b3, b4⟩, ⟨b5, b6, b7, b8⟩⟩)) ∧ Below w.heap.size w w' := by
 unfold withinI withinF
 have HF := Lib.hid (fun W => fairI_calls a0 a1 a2 a3 a4 a5 a6 a7 a8 W)
 have HG := Lib.hid (fun W => fairI_calls b0 b1 b2 b3 b4 b5 b6 b7 b8 W)
 generalize fairI ⟨a0, ⟨a1, a2, a3, a4⟩, ⟨a5, a6, a7, a8⟩⟩ = c at HF ⊢
 generalize fairI ⟨b0, ⟨b1, b2, b3, b4⟩, ⟨b5, b6, b7, b8⟩⟩ = d at HG ⊢
 obtain ⟨c0, ⟨c1, c2, c3, c4⟩, ⟨c5, c6, c7, c8⟩⟩ := c
 obtain ⟨d0, ⟨d1, d2, d3, d4⟩, ⟨d5, d6, d7, d8⟩⟩ := d
 dsimp only at HF HG ⊢
 have HC := Lib.hid (fun W => cmpN_calls d1 d2 d3 d4 c1 c2 c3 c4 W)
 have HD := Lib.hid (fun W => cmpN_calls c5 c6 c7 c8 d5 d6 d7 d8 W)
 generalize cmpN ⟨d1, d2, d3, d4⟩ ⟨c1, c2, c3, c4⟩ = l at HC ⊢
 generalize cmpN ⟨c5, c6, c7, c8⟩ ⟨d5, d6, d7, d8⟩ = h at HD ⊢
 have BX := ((Blk.new w 39 #[.bool a0, .int .i64 a1, .bool a2, .int .u64 a3, .int .i64 a4, .int .i64 a5, .bool a6, .int .u64 a7, .int .i64 a8]).alloc (.cells #[.bool b0, .int .i64 b1, .bool b2, .int .u64 b3, .int .i64 b4, .int .i64 b5, .bool b6, .int .u64 b7, .int .i64 b8] 39)).drew
 have BY := (Blk.new1 w (.cells #[.bool a0, .int .i64 a1, .bool a2, .int .u64 a3, .int .i64 a4, .int .i64 a5, .bool a6, .int .u64 a7, .int .i64 a8] 39) 39 #[.bool b0, .int .i64 b1, .bool b2, .int .u64 b3, .int .i64 b4, .int .i64 b5, .bool b6, .int .u64 b7, .int .i64 b8]).drew
 have HB := bl_drew (bl_alloc (bl_alloc (Below.refl w.heap.size w) (.cells #[.bool a0, .int .i64 a1, .bool a2, .int .u64 a3, .int .i64 a4, .int .i64 a5, .bool a6, .int .u64 a7, .int .i64 a8] 39)) (.cells #[.bool b0, .int .i64 b1, .bool b2, .int .u64 b3, .int .i64 b4, .int .i64 b5, .bool b6, .int .u64 b7, .int .i64 b8] 39))
 go_enter Tryz.func148, Tryz.ntmps148
 go_wp2_with fail
 refine start_ (n := 6) (S := fun w' => w'.cell? ⟨w.heap.size, 0, none⟩ = some (.bool a0) ∧ w'.cell? ⟨w.heap.size, 1, none⟩ = some (.int .i64 a1) ∧ w'.cell? ⟨w.heap.size, 2, none⟩ = some (.bool a2) ∧ w'.cell? ⟨w.heap.size, 3, none⟩ = some (.int .u64 a3) ∧ w'.cell? ⟨w.heap.size, 4, none⟩ = some (.int .i64 a4) ∧ w'.cell? ⟨w.heap.size, 5, none⟩ = some (.int .i64 a5) ∧ w'.cell? ⟨w.heap.size, 6, none⟩ = some (.bool a6) ∧ w'.cell? ⟨w.heap.size, 7, none⟩ = some (.int .u64 a7) ∧ w'.cell? ⟨w.heap.size, 8, none⟩ = some (.int .i64 a8) ∧ w'.cell? ⟨(w.heap.size + 1), 0, none⟩ = some (.bool b0) ∧ w'.cell? ⟨(w.heap.size + 1), 1, none⟩ = some (.int .i64 b1) ∧ w'.cell? ⟨(w.heap.size + 1), 2, none⟩ = some (.bool b2) ∧ w'.cell? ⟨(w.heap.size + 1), 3, none⟩ = some (.int .u64 b3) ∧ w'.cell? ⟨(w.heap.size + 1), 4, none⟩ = some (.int .i64 b4) ∧ w'.cell? ⟨(w.heap.size + 1), 5, none⟩ = some (.int .i64 b5) ∧ w'.cell? ⟨(w.heap.size + 1), 6, none⟩ = some (.bool b6) ∧ w'.cell? ⟨(w.heap.size + 1), 7, none⟩ = some (.int .u64 b7) ∧ w'.cell? ⟨(w.heap.size + 1), 8, none⟩ = some (.int .i64 b8)) (ds := [4, 5]) (bq 6 0) (by kernel_rfl) rfl rfl ⟨BX.cell 0, BX.cell 1, BX.cell 2, BX.cell 3, BX.cell 4, BX.cell 5, BX.cell 6, BX.cell 7, BX.cell 8, BY.cell 0, BY.cell 1, BY.cell 2, BY.cell 3, BY.cell 4, BY.cell 5, BY.cell 6, BY.cell 7, BY.cell 8⟩ (fun hHeld => ?_)
 generalize (((w.alloc (.cells #[.bool a0, .int .i64 a1, .bool a2, .int .u64 a3, .int .i64 a4, .int .i64 a5, .bool a6, .int .u64 a7, .int .i64 a8] 39)).alloc (.cells #[.bool b0, .int .i64 b1, .bool b2, .int .u64 b3, .int .i64 b4, .int .i64 b5, .bool b6, .int .u64 b7, .int .i64 b8] 39)).drew) = W at BX BY HB hHeld ⊢
 refine take_ (i := 0) (N := some 5) (v := ?_) (a' := ?_) (bq 6 1) rfl rfl (by kernel_rfl) (fun _ _ _ h => h) (Or.inl ⟨by rfl, ?_⟩) hHeld ?_ ?_
 rotate_left
 ·rintro w' ⟨s0_, s1_, s2_, s3_, s4_, s5_, s6_, s7_, s8_, s9_, s10_, s11_, s12_, s13_, s14_, s15_, s16_, s17_⟩
  go_simp
  with_reducible rfl
 rotate_left
 ·simp only [Act.put, pA, pB, pC]
  rfl
 refine take_ (i := 2) (N := some 7) (v := ?_) (a' := ?_) (bq 6 5) rfl rfl (by kernel_rfl) (fun _ _ _ h => h) (Or.inl ⟨by rfl, ?_⟩) hHeld ?_ ?_
 rotate_left
 ·rintro w' ⟨s0_, s1_, s2_, s3_, s4_, s5_, s6_, s7_, s8_, s9_, s10_, s11_, s12_, s13_, s14_, s15_, s16_, s17_⟩
  go_simp
  with_reducible rfl
 rotate_left
 ·simp only [Act.put, pA, pB, pC]
  rfl
 refine one_ (i := 1) (N := some 6) (bq 6 7) rfl rfl (by kernel_rfl) (by decide) (fun K hK => ?_)
 refine goes_ Tryz.func42 (by kernel_rfl) rfl #[.agg #[.bool a0, .int .i64 a1, .bool a2, .int .u64 a3, .int .i64 a4, .int .i64 a5, .bool a6, .int .u64 a7, .int .i64 a8]] (by first | rfl | go_simp) rfl rfl (by simp only [List.map_toArray, List.map_cons, List.map_nil] <;> rfl) ?_
 with_reducible refine (HF.out _).mono ?_
 rintro e w1 ⟨rfl, hb⟩
 refine ⟨_, rfl, ?_⟩
 have BX := BX.call hb
 have BY := BY.call hb
 have HB := bl_trans HB hb
 refine hK.out _ _ ⟨BX.cell 0, BX.cell 1, BX.cell 2, BX.cell 3, BX.cell 4, BX.cell 5, BX.cell 6, BX.cell 7, BX.cell 8, BY.cell 0, BY.cell 1, BY.cell 2, BY.cell 3, BY.cell 4, BY.cell 5, BY.cell 6, BY.cell 7, BY.cell 8⟩ (fun hHeld => ?_)
 clear hK K hb
 refine norm_ (a' := ?_) ?_ ?_
 rotate_left
 ·show Act.put _ (some 6) _ = _
  simp only [Act.put, pA, pB, pC]
  rfl
 refine one_ (i := 3) (N := some 8) (bq 6 15) rfl rfl (by kernel_rfl) (by decide) (fun K hK => ?_)
 refine goes_ Tryz.func42 (by kernel_rfl) rfl #[.agg #[.bool b0, .int .i64 b1, .bool b2, .int .u64 b3, .int .i64 b4, .int .i64 b5, .bool b6, .int .u64 b7, .int .i64 b8]] (by first | rfl | go_simp) rfl rfl (by simp only [List.map_toArray, List.map_cons, List.map_nil] <;> rfl) ?_
 with_reducible refine (HG.out _).mono ?_
 rintro e w2 ⟨rfl, hb⟩
 refine ⟨_, rfl, ?_⟩
 have BX := BX.call hb
 have BY := BY.call hb
 have HB := bl_trans HB hb
 refine hK.out _ _ ⟨BX.cell 0, BX.cell 1, BX.cell 2, BX.cell 3, BX.cell 4, BX.cell 5, BX.cell 6, BX.cell 7, BX.cell 8, BY.cell 0, BY.cell 1, BY.cell 2, BY.cell 3, BY.cell 4, BY.cell 5, BY.cell 6, BY.cell 7, BY.cell 8⟩ (fun hHeld => ?_)
 clear hK K hb
 refine norm_ (a' := ?_) ?_ ?_
 rotate_left
 ·show Act.put _ (some 8) _ = _
  simp only [Act.put, pA, pB, pC]
  rfl
 obtain ⟨⟨q0, q1, q2, q3, q4, q5, q6, q7, q8⟩, ⟨f0, f1, f2, f3, f4, f5, f6, f7, f8⟩⟩ := BX.c9
 obtain ⟨W3, hW3, BX3, hK3, hL3, _⟩ := put9 BX (.bool c0) (.int .i64 c1) (.bool c2) (.int .u64 c3) (.int .i64 c4) (.int .i64 c5) (.bool c6) (.int .u64 c7) (.int .i64 c8)
 have BY3 := hK3 _ _ _ (by simp) BY
 have HB3 := hL3 w HB (Nat.le_refl _)
 refine last_ (i := 4) (N := none) (bq 6 31) rfl rfl (by kernel_rfl) (by decide) (fun K hK => ?_)
 refine skip_ (w1 := ?_) (by rfl) rfl ?_ ?_
 rotate_left
 ·go_simp
  rfl
 refine hK.out _ _ ?_
 clear hK K
 clear q0 f0 q1 f1 q2 f2 q3 f3 q4 f4 q5 f5 q6 f6 q7 f7 q8 f8 hW3
 obtain ⟨⟨q0, q1, q2, q3, q4, q5, q6, q7, q8⟩, ⟨f0, f1, f2, f3, f4, f5, f6, f7, f8⟩⟩ := BY3.c9
 obtain ⟨W4, hW4, BY4, hK4, hL4, _⟩ := put9 BY3 (.bool d0) (.int .i64 d1) (.bool d2) (.int .u64 d3) (.int .i64 d4) (.int .i64 d5) (.bool d6) (.int .u64 d7) (.int .i64 d8)
 have BX4 := hK4 _ _ _ (by simp) BX3
 have HB4 := hL4 w HB3 (by simp)
 refine last_ (i := 5) (N := none) (bq 6 63) rfl rfl (by kernel_rfl) (by decide) (fun K hK => ?_)
 refine skip_ (w1 := ?_) (by rfl) rfl ?_ ?_
 rotate_left
 ·go_simp
  rfl
 refine hK.out _ _ ?_
 clear hK K
 refine done_ (by kernel_rfl) ?_
 clear q0 f0 q1 f1 q2 f2 q3 f3 q4 f4 q5 f5 q6 f6 q7 f7 q8 f8 hW4 hHeld hK3 hL3 hK4 hL4 BX BY BX3 BY3 HB HB3
 cases c0
 ·cases d0
  ·cases hl : decide (l ≤ 0)
   ·have Hl := Lib.hid hl
    obtain ⟨⟨p0, p1, p2, p3, p4, p5, p6, p7, p8⟩, _⟩ := BX4.c9
    obtain ⟨⟨r0, r1, r2, r3, r4, r5, r6, r7, r8⟩, _⟩ := BY4.c9
    go_wp2_with (go_at_call 24; first
     | ((with_reducible refine (HC.out _).mono ?_); rintro e w5 ⟨rfl, hb⟩; have BX5 := BX4.call hb; have BY5 := BY4.call hb; have HB5 := bl_trans HB4 hb; obtain ⟨⟨u0, u1, u2, u3, u4, u5, u6, u7, u8⟩, _⟩ := BX5.c9; obtain ⟨⟨v0, v1, v2, v3, v4, v5, v6, v7, v8⟩, _⟩ := BY5.c9; clear hb)
     | ((with_reducible refine (HD.out _).mono ?_); rintro e w6 ⟨rfl, hb⟩; have HB6 := bl_trans HB5 hb; clear hb))
    all_goals go_ret
    all_goals exact ⟨by first | rfl | (simp; done) | (rw [Hl.out]; rfl) | (rw [Hl.out, Hh.out]; rfl), by first | exact HB6 | exact HB5 | exact HB4⟩
   ·have Hl := Lib.hid hl
    cases hh : decide (h ≤ 0)
    ·have Hh := Lib.hid hh
     obtain ⟨⟨p0, p1, p2, p3, p4, p5, p6, p7, p8⟩, _⟩ := BX4.c9
     obtain ⟨⟨r0, r1, r2, r3, r4, r5, r6, r7, r8⟩, _⟩ := BY4.c9
     go_wp2_with (go_at_call 24; first
      | ((with_reducible refine (HC.out _).mono ?_); rintro e w5 ⟨rfl, hb⟩; have BX5 := BX4.call hb; have BY5 := BY4.call hb; have HB5 := bl_trans HB4 hb; obtain ⟨⟨u0, u1, u2, u3, u4, u5, u6, u7, u8⟩, _⟩ := BX5.c9; obtain ⟨⟨v0, v1, v2, v3, v4, v5, v6, v7, v8⟩, _⟩ := BY5.c9; clear hb)
      | ((with_reducible refine (HD.out _).mono ?_); rintro e w6 ⟨rfl, hb⟩; have HB6 := bl_trans HB5 hb; clear hb))
     all_goals go_ret
     all_goals exact ⟨by first | rfl | (simp; done) | (rw [Hl.out]; rfl) | (rw [Hl.out, Hh.out]; rfl), by first | exact HB6 | exact HB5 | exact HB4⟩
    ·have Hh := Lib.hid hh
     obtain ⟨⟨p0, p1, p2, p3, p4, p5, p6, p7, p8⟩, _⟩ := BX4.c9
     obtain ⟨⟨r0, r1, r2, r3, r4, r5, r6, r7, r8⟩, _⟩ := BY4.c9
     go_wp2_with (go_at_call 24; first
      | ((with_reducible refine (HC.out _).mono ?_); rintro e w5 ⟨rfl, hb⟩; have BX5 := BX4.call hb; have BY5 := BY4.call hb; have HB5 := bl_trans HB4 hb; obtain ⟨⟨u0, u1, u2, u3, u4, u5, u6, u7, u8⟩, _⟩ := BX5.c9; obtain ⟨⟨v0, v1, v2, v3, v4, v5, v6, v7, v8⟩, _⟩ := BY5.c9; clear hb)
      | ((with_reducible refine (HD.out _).mono ?_); rintro e w6 ⟨rfl, hb⟩; have HB6 := bl_trans HB5 hb; clear hb))
     all_goals go_ret
     all_goals exact ⟨by first | rfl | (simp; done) | (rw [Hl.out]; rfl) | (rw [Hl.out, Hh.out]; rfl), by first | exact HB6 | exact HB5 | exact HB4⟩
  ·skip
   obtain ⟨⟨p0, p1, p2, p3, p4, p5, p6, p7, p8⟩, _⟩ := BX4.c9
   obtain ⟨⟨r0, r1, r2, r3, r4, r5, r6, r7, r8⟩, _⟩ := BY4.c9
   go_wp2_with (go_at_call 24; first
    | ((with_reducible refine (HC.out _).mono ?_); rintro e w5 ⟨rfl, hb⟩; have BX5 := BX4.call hb; have BY5 := BY4.call hb; have HB5 := bl_trans HB4 hb; obtain ⟨⟨u0, u1, u2, u3, u4, u5, u6, u7, u8⟩, _⟩ := BX5.c9; obtain ⟨⟨v0, v1, v2, v3, v4, v5, v6, v7, v8⟩, _⟩ := BY5.c9; clear hb)
    | ((with_reducible refine (HD.out _).mono ?_); rintro e w6 ⟨rfl, hb⟩; have HB6 := bl_trans HB5 hb; clear hb))
   all_goals go_ret
   all_goals exact ⟨by first | rfl | (simp; done) | (rw [Hl.out]; rfl) | (rw [Hl.out, Hh.out]; rfl), by first | exact HB6 | exact HB5 | exact HB4⟩
 ·skip
  obtain ⟨⟨p0, p1, p2, p3, p4, p5, p6, p7, p8⟩, _⟩ := BX4.c9
  obtain ⟨⟨r0, r1, r2, r3, r4, r5, r6, r7, r8⟩, _⟩ := BY4.c9
  go_wp2_with (go_at_call 24; first
   | ((with_reducible refine (HC.out _).mono ?_); rintro e w5 ⟨rfl, hb⟩; have BX5 := BX4.call hb; have BY5 := BY4.call hb; have HB5 := bl_trans HB4 hb; obtain ⟨⟨u0, u1, u2, u3, u4, u5, u6, u7, u8⟩, _⟩ := BX5.c9; obtain ⟨⟨v0, v1, v2, v3, v4, v5, v6, v7, v8⟩, _⟩ := BY5.c9; clear hb)
   | ((with_reducible refine (HD.out _).mono ?_); rintro e w6 ⟨rfl, hb⟩; have HB6 := bl_trans HB5 hb; clear hb))
  all_goals go_ret
  all_goals exact ⟨by first | rfl | (simp; done) | (rw [Hl.out]; rfl) | (rw [Hl.out, Hh.out]; rfl), by first | exact HB6 | exact HB5 | exact HB4⟩

set_option maxRecDepth 100000 in
set_option maxHeartbeats 4000000 in
theorem hasI_calls (a0 : Bool) (a1 : Int) (a2 : Bool) (a3 a4 a5 : Int) (a6 : Bool) (a7 a8 : Int) (b0 : Int) (b1 : Bool) (b2 b3 : Int) (w : World) :
  Calls Tryz.prog 135 #[.agg #[.bool a0, .int .i64 a1, .bool a2, .int .u64 a3, .int .i64 a4, .int .i64 a5, .bool a6, .int .u64 a7, .int .i64 a8], .agg #[.int .i64 b0, .bool b1, .int .u64 b2, .int .i64 b3]] w fun e w' => e = .returned (.bool (hasI ⟨a0, ⟨a1, a2, a3, a4⟩, ⟨a5, a6, a7, a8⟩⟩ ⟨b0, b1, b2, b3⟩)) ∧ Below w.heap.size w w' := by
 unfold hasI
 have HP := Lib.hid (fun W => pointI_calls b0 b1 b2 b3 W)
 generalize pointI ⟨b0, b1, b2, b3⟩ = r at HP ⊢
 obtain ⟨r0, ⟨r1, r2, r3, r4⟩, ⟨r5, r6, r7, r8⟩⟩ := r
 dsimp only at HP ⊢
 have HW := Lib.hid (fun W => withinI_calls r0 r1 r2 r3 r4 r5 r6 r7 r8 a0 a1 a2 a3 a4 a5 a6 a7 a8 W)
 generalize withinI _ _ = q at HW ⊢
 cases r0
 all_goals
  go_enter Tryz.func135, Tryz.ntmps135
  go_wp2_with (first
   | (go_at_call 147; refine (HP.out _).mono ?_; rintro e w1 ⟨rfl, hb⟩; have hz : w.heap.size + 1 < w1.heap.size := (by have := hb.size; simp at this; omega); have hz0 : w.heap.size < w1.heap.size := (by omega); have BX1 := ((Blk.new w _ _).alloc _).call hb; have HB1 := bl_trans (bl_alloc (bl_alloc (Below.refl w.heap.size w) _) _) hb; obtain ⟨⟨q0, q1, q2, q3, q4, q5, q6, q7, q8⟩, ⟨f0, f1, f2, f3, f4, f5, f6, f7, f8⟩⟩ := BX1.c9; clear hb BX1)
   | (go_at_call 148; refine (HW.out _).mono ?_; rintro e w2 ⟨rfl, hb⟩; have HB2 := bl_trans (by repeat (first | exact HB1 | refine bl_set ?_ (by simp; omega) _ | apply bl_alloc)) hb; clear hb))
  go_ret
  exact ⟨by first | rfl | (simp; done), by first | exact HB2 | (repeat (first | exact HB1 | refine bl_set ?_ (by simp; omega) _ | apply bl_alloc))⟩
end Go.Proofs.YtagojbgmgkkdpaaGreat.Wk
