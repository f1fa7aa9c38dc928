/- Walks: iv.fair, iv.Make, iv.Point, for every input (no condition). -/
import Derived.Test.YtagojbgmgkkdpaaGreatIvA
namespace Go.Proofs.YtagojbgmgkkdpaaGreat.Wk
open Go.RowKit Go.Proofs.Pl Go.Proofs.YtagojbgmgkkdpaaGreatW.PrintLast
set_option linter.unusedSimpArgs false
set_option linter.unusedVariables false

set_option maxRecDepth 100000 in
set_option maxHeartbeats 2000000 in
theorem fairI_calls (a0 : Bool) (a1 : Int) (a2 : Bool) (a3 a4 a5 : Int) (a6 : Bool) (a7 a8 : Int) (w : World) :
  Calls Tryz.prog 42 #[.agg #[.bool a0, .int .i64 a1, .bool a2, .int .u64 a3, .int .i64 a4, .int .i64 a5, .bool a6, .int .u64 a7, .int .i64 a8]] w fun e w' => e = .returned (.agg #[.bool (fairI ⟨a0, ⟨a1, a2, a3, a4⟩, ⟨a5, a6, a7, a8⟩⟩).emp, .int .i64 ((fairI ⟨a0, ⟨a1, a2, a3, a4⟩, ⟨a5, a6, a7, a8⟩⟩).lo).k, .bool ((fairI ⟨a0, ⟨a1, a2, a3, a4⟩, ⟨a5, a6, a7, a8⟩⟩).lo).n, .int .u64 ((fairI ⟨a0, ⟨a1, a2, a3, a4⟩, ⟨a5, a6, a7, a8⟩⟩).lo).m, .int .i64 ((fairI ⟨a0, ⟨a1, a2, a3, a4⟩, ⟨a5, a6, a7, a8⟩⟩).lo).e, .int .i64 ((fairI ⟨a0, ⟨a1, a2, a3, a4⟩, ⟨a5, a6, a7, a8⟩⟩).hi).k, .bool ((fairI ⟨a0, ⟨a1, a2, a3, a4⟩, ⟨a5, a6, a7, a8⟩⟩).hi).n, .int .u64 ((fairI ⟨a0, ⟨a1, a2, a3, a4⟩, ⟨a5, a6, a7, a8⟩⟩).hi).m, .int .i64 ((fairI ⟨a0, ⟨a1, a2, a3, a4⟩, ⟨a5, a6, a7, a8⟩⟩).hi).e]) ∧ Below w.heap.size w w' := by
 unfold fairI
 have HM := Lib.hid (fun W => mayI_calls a0 a1 a2 a3 a4 a5 a6 a7 a8 W)
 generalize mayI ⟨a0, ⟨a1, a2, a3, a4⟩, ⟨a5, a6, a7, a8⟩⟩ = p at HM ⊢
 cases p
 ·show Calls _ _ _ _ fun e w' => e = .returned (.agg #[.bool true, .int .i64 0, .bool false, .int .u64 0, .int .i64 0, .int .i64 0, .bool false, .int .u64 0, .int .i64 0]) ∧ _
  go_enter Tryz.func42, Tryz.ntmps42
  go_wp2_with (first
   | (go_at_call 72; refine (HM.out _).mono ?_; rintro e w1 ⟨rfl, hb⟩; have BR1 := (Blk.new1 w _ _ _).call hb; have HB1 := bl_trans (bl_alloc (bl_alloc (Below.refl w.heap.size w) _) _) hb; clear hb)
   | (go_at_call 45; refine (noneI_lit _).mono ?_; rintro e w2 ⟨rfl, hb⟩; have BR2 := BR1.call hb; have HB2 := bl_trans HB1 hb; obtain ⟨W3, hW3, B3, _, hL, _⟩ := put9 BR2 (.bool true) (.int .i64 0) (.bool false) (.int .u64 0) (.int .i64 0) (.int .i64 0) (.bool false) (.int .u64 0) (.int .i64 0); have HB3 := hL w HB2 (by simp); obtain ⟨⟨q0, q1, q2, q3, q4, q5, q6, q7, q8⟩, ⟨f0, f1, f2, f3, f4, f5, f6, f7, f8⟩⟩ := BR2.c9; clear hb BR1 BR2 HB1 HB2 hL))
  exact bodyPost_ret (results_cell_row rfl _ _ (w.heap.size + 1) 39 #[.bool true, .int .i64 0, .bool false, .int .u64 0, .int .i64 0, .int .i64 0, .bool false, .int .u64 0, .int .i64 0] (0, 0) _ rfl B3 Tryz.underlying39 rfl (by kernel_rfl)) rfl ⟨rfl, HB3⟩
 ·show Calls _ _ _ _ fun e w' => e = .returned (.agg #[.bool a0, .int .i64 a1, .bool a2, .int .u64 a3, .int .i64 a4, .int .i64 a5, .bool a6, .int .u64 a7, .int .i64 a8]) ∧ _
  go_enter Tryz.func42, Tryz.ntmps42
  go_wp2_with (go_at_call 72; refine (HM.out _).mono ?_; rintro e w1 ⟨rfl, hb⟩; have BX1 := ((Blk.new w _ _).alloc _).call hb; have BR1 := (Blk.new1 w _ _ _).call hb; have HB1 := bl_trans (bl_alloc (bl_alloc (Below.refl w.heap.size w) _) _) hb; obtain ⟨W3, hW3, B3, _, hL, _⟩ := put9 BR1 (.bool a0) (.int .i64 a1) (.bool a2) (.int .u64 a3) (.int .i64 a4) (.int .i64 a5) (.bool a6) (.int .u64 a7) (.int .i64 a8); have HB3 := hL w HB1 (by simp); obtain ⟨⟨p0, p1, p2, p3, p4, p5, p6, p7, p8⟩, ⟨g0, g1, g2, g3, g4, g5, g6, g7, g8⟩⟩ := BX1.c9; obtain ⟨⟨q0, q1, q2, q3, q4, q5, q6, q7, q8⟩, ⟨f0, f1, f2, f3, f4, f5, f6, f7, f8⟩⟩ := BR1.c9; clear hb BX1 BR1 HB1 hL)
  exact bodyPost_ret (results_cell_row rfl _ _ (w.heap.size + 1) 39 #[.bool a0, .int .i64 a1, .bool a2, .int .u64 a3, .int .i64 a4, .int .i64 a5, .bool a6, .int .u64 a7, .int .i64 a8] (0, 0) _ rfl B3 Tryz.underlying39 rfl (by kernel_rfl)) rfl ⟨rfl, HB3⟩

set_option maxRecDepth 100000 in
set_option maxHeartbeats 4000000 in
theorem makeI_calls (a0 : Int) (a1 : Bool) (a2 a3 : Int) (b0 : Int) (b1 : Bool) (b2 b3 : Int) (w : World) :
  Calls Tryz.prog 36 #[.agg #[.int .i64 a0, .bool a1, .int .u64 a2, .int .i64 a3], .agg #[.int .i64 b0, .bool b1, .int .u64 b2, .int .i64 b3]] w fun e w' => e = .returned (.agg #[.bool (makeI ⟨a0, a1, a2, a3⟩ ⟨b0, b1, b2, b3⟩).emp, .int .i64 ((makeI ⟨a0, a1, a2, a3⟩ ⟨b0, b1, b2, b3⟩).lo).k, .bool ((makeI ⟨a0, a1, a2, a3⟩ ⟨b0, b1, b2, b3⟩).lo).n, .int .u64 ((makeI ⟨a0, a1, a2, a3⟩ ⟨b0, b1, b2, b3⟩).lo).m, .int .i64 ((makeI ⟨a0, a1, a2, a3⟩ ⟨b0, b1, b2, b3⟩).lo).e, .int .i64 ((makeI ⟨a0, a1, a2, a3⟩ ⟨b0, b1, b2, b3⟩).hi).k, .bool ((makeI ⟨a0, a1, a2, a3⟩ ⟨b0, b1, b2, b3⟩).hi).n, .int .u64 ((makeI ⟨a0, a1, a2, a3⟩ ⟨b0, b1, b2, b3⟩).hi).m, .int .i64 ((makeI ⟨a0, a1, a2, a3⟩ ⟨b0, b1, b2, b3⟩).hi).e]) ∧ Below w.heap.size w w' := by
 unfold makeI
 have HX1 := Lib.hid (fun W => negN_calls a0 a1 a2 a3 W)
 have HY1 := Lib.hid (fun W => negN_calls b0 b1 b2 b3 W)
 generalize negN ⟨a0, a1, a2, a3⟩ = c at HX1 ⊢
 generalize negN ⟨b0, b1, b2, b3⟩ = d at HY1 ⊢
 obtain ⟨c0, c1, c2, c3⟩ := c
 obtain ⟨d0, d1, d2, d3⟩ := d
 have HX2 := Lib.hid (fun W => negN_calls c0 c1 c2 c3 W)
 have HY2 := Lib.hid (fun W => negN_calls d0 d1 d2 d3 W)
 generalize negN ⟨c0, c1, c2, c3⟩ = x at HX2 ⊢
 generalize negN ⟨d0, d1, d2, d3⟩ = y at HY2 ⊢
 obtain ⟨x0, x1, x2, x3⟩ := x
 obtain ⟨y0, y1, y2, y3⟩ := y
 have HR := Lib.hid (fun W => fairI_calls false x0 x1 x2 x3 y0 y1 y2 y3 W)
 generalize fairI _ = r at HR ⊢
 obtain ⟨r0, ⟨r1, r2, r3, r4⟩, ⟨r5, r6, r7, r8⟩⟩ := r
 dsimp only at HX1 HX2 HY1 HY2 HR ⊢
 go_enter Tryz.func36, Tryz.ntmps36
 go_wp2_with fail
 have BX := (((Blk.new w 37 #[.int .i64 a0, .bool a1, .int .u64 a2, .int .i64 a3]).alloc (.cells #[.int .i64 b0, .bool b1, .int .u64 b2, .int .i64 b3] 37)).alloc (.cells #[.bool false, .int .i64 0, .bool false, .int .u64 0, .int .i64 0, .int .i64 0, .bool false, .int .u64 0, .int .i64 0] 39)).drew
 have BY := ((Blk.new1 w (.cells #[.int .i64 a0, .bool a1, .int .u64 a2, .int .i64 a3] 37) 37 #[.int .i64 b0, .bool b1, .int .u64 b2, .int .i64 b3]).alloc (.cells #[.bool false, .int .i64 0, .bool false, .int .u64 0, .int .i64 0, .int .i64 0, .bool false, .int .u64 0, .int .i64 0] 39)).drew
 have BR0 := (Blk.new2 w (.cells #[.int .i64 a0, .bool a1, .int .u64 a2, .int .i64 a3] 37) (.cells #[.int .i64 b0, .bool b1, .int .u64 b2, .int .i64 b3] 37) 39 #[.bool false, .int .i64 0, .bool false, .int .u64 0, .int .i64 0, .int .i64 0, .bool false, .int .u64 0, .int .i64 0]).drew
 have BR : Blk _ (w.heap.size + 1 + 1) _ _ := BR0
 clear BR0
 have HB := bl_drew (bl_alloc (bl_alloc (bl_alloc (Below.refl w.heap.size w) (.cells #[.int .i64 a0, .bool a1, .int .u64 a2, .int .i64 a3] 37)) (.cells #[.int .i64 b0, .bool b1, .int .u64 b2, .int .i64 b3] 37)) (.cells #[.bool false, .int .i64 0, .bool false, .int .u64 0, .int .i64 0, .int .i64 0, .bool false, .int .u64 0, .int .i64 0] 39))
 refine start_ (n := 9) (S := fun w' => w'.cell? ⟨w.heap.size, 0, none⟩ = some (.int .i64 a0) ∧ w'.cell? ⟨w.heap.size, 1, none⟩ = some (.bool a1) ∧ w'.cell? ⟨w.heap.size, 2, none⟩ = some (.int .u64 a2) ∧ w'.cell? ⟨w.heap.size, 3, none⟩ = some (.int .i64 a3) ∧ w'.cell? ⟨(w.heap.size + 1), 0, none⟩ = some (.int .i64 b0) ∧ w'.cell? ⟨(w.heap.size + 1), 1, none⟩ = some (.bool b1) ∧ w'.cell? ⟨(w.heap.size + 1), 2, none⟩ = some (.int .u64 b2) ∧ w'.cell? ⟨(w.heap.size + 1), 3, none⟩ = some (.int .i64 b3)) (ds := [8]) (bq 9 0) (by kernel_rfl) rfl rfl ⟨BX.cell 0, BX.cell 1, BX.cell 2, BX.cell 3, BY.cell 0, BY.cell 1, BY.cell 2, BY.cell 3⟩ (fun hHeld => ?_)
 generalize ((((w.alloc (.cells #[.int .i64 a0, .bool a1, .int .u64 a2, .int .i64 a3] 37)).alloc (.cells #[.int .i64 b0, .bool b1, .int .u64 b2, .int .i64 b3] 37)).alloc (.cells #[.bool false, .int .i64 0, .bool false, .int .u64 0, .int .i64 0, .int .i64 0, .bool false, .int .u64 0, .int .i64 0] 39)).drew) = W at BX BY BR HB hHeld ⊢
 refine take_ (i := 0) (N := some 5) (v := ?_) (a' := ?_) (bq 9 1) rfl rfl (by kernel_rfl) (fun _ _ _ h => h) (Or.inl ⟨by rfl, ?_⟩) hHeld ?_ ?_
 rotate_left
 ·rintro w' ⟨s0_, s1_, s2_, s3_, s4_, s5_, s6_, s7_⟩
  go_simp
  with_reducible rfl
 rotate_left
 ·simp only [Act.put, pA, pB, pC]
  rfl
 refine take_ (i := 3) (N := some 8) (v := ?_) (a' := ?_) (bq 9 9) rfl rfl (by kernel_rfl) (fun _ _ _ h => h) (Or.inl ⟨by rfl, ?_⟩) hHeld ?_ ?_
 rotate_left
 ·rintro w' ⟨s0_, s1_, s2_, s3_, s4_, s5_, s6_, s7_⟩
  go_simp
  with_reducible rfl
 rotate_left
 ·simp only [Act.put, pA, pB, pC]
  rfl
 refine one_ (i := 1) (N := some 6) (bq 9 11) rfl rfl (by kernel_rfl) (by decide) (fun K hK => ?_)
 refine goes_ Tryz.func66 (by kernel_rfl) rfl #[.agg #[.int .i64 a0, .bool a1, .int .u64 a2, .int .i64 a3]] (by first | rfl | go_simp) rfl rfl (by simp only [List.map_toArray, List.map_cons, List.map_nil] <;> rfl) ?_
 with_reducible refine (HX1.out _).mono ?_
 rintro e w1 ⟨rfl, hb⟩
 refine ⟨_, rfl, ?_⟩
 have BX := BX.call hb
 have BY := BY.call hb
 have BR := BR.call hb
 have HB := bl_trans HB hb
 refine hK.out _ _ ⟨BX.cell 0, BX.cell 1, BX.cell 2, BX.cell 3, BY.cell 0, BY.cell 1, BY.cell 2, BY.cell 3⟩ (fun hHeld => ?_)
 clear hK K hb
 refine norm_ (a' := ?_) ?_ ?_
 rotate_left
 ·show Act.put _ (some 6) _ = _
  simp only [Act.put, pA, pB, pC]
  rfl
 refine one_ (i := 2) (N := some 7) (bq 9 15) rfl rfl (by kernel_rfl) (by decide) (fun K hK => ?_)
 refine goes_ Tryz.func66 (by kernel_rfl) rfl #[.agg #[.int .i64 c0, .bool c1, .int .u64 c2, .int .i64 c3]] (by first | rfl | go_simp) rfl rfl (by simp only [List.map_toArray, List.map_cons, List.map_nil] <;> rfl) ?_
 with_reducible refine (HX2.out _).mono ?_
 rintro e w2 ⟨rfl, hb⟩
 refine ⟨_, rfl, ?_⟩
 have BX := BX.call hb
 have BY := BY.call hb
 have BR := BR.call hb
 have HB := bl_trans HB hb
 refine hK.out _ _ ⟨BX.cell 0, BX.cell 1, BX.cell 2, BX.cell 3, BY.cell 0, BY.cell 1, BY.cell 2, BY.cell 3⟩ (fun hHeld => ?_)
 clear hK K hb
 refine norm_ (a' := ?_) ?_ ?_
 rotate_left
 ·show Act.put _ (some 7) _ = _
  simp only [Act.put, pA, pB, pC]
  rfl
 refine one_ (i := 4) (N := some 9) (bq 9 31) rfl rfl (by kernel_rfl) (by decide) (fun K hK => ?_)
 refine goes_ Tryz.func66 (by kernel_rfl) rfl #[.agg #[.int .i64 b0, .bool b1, .int .u64 b2, .int .i64 b3]] (by first | rfl | go_simp) rfl rfl (by simp only [List.map_toArray, List.map_cons, List.map_nil] <;> rfl) ?_
 with_reducible refine (HY1.out _).mono ?_
 rintro e w3 ⟨rfl, hb⟩
 refine ⟨_, rfl, ?_⟩
 have BX := BX.call hb
 have BY := BY.call hb
 have BR := BR.call hb
 have HB := bl_trans HB hb
 refine hK.out _ _ ⟨BX.cell 0, BX.cell 1, BX.cell 2, BX.cell 3, BY.cell 0, BY.cell 1, BY.cell 2, BY.cell 3⟩ (fun hHeld => ?_)
 clear hK K hb
 refine norm_ (a' := ?_) ?_ ?_
 rotate_left
 ·show Act.put _ (some 9) _ = _
  simp only [Act.put, pA, pB, pC]
  rfl
 refine one_ (i := 5) (N := some 10) (bq 9 63) rfl rfl (by kernel_rfl) (by decide) (fun K hK => ?_)
 refine goes_ Tryz.func66 (by kernel_rfl) rfl #[.agg #[.int .i64 d0, .bool d1, .int .u64 d2, .int .i64 d3]] (by first | rfl | go_simp) rfl rfl (by simp only [List.map_toArray, List.map_cons, List.map_nil] <;> rfl) ?_
 with_reducible refine (HY2.out _).mono ?_
 rintro e w4 ⟨rfl, hb⟩
 refine ⟨_, rfl, ?_⟩
 have BX := BX.call hb
 have BY := BY.call hb
 have BR := BR.call hb
 have HB := bl_trans HB hb
 refine hK.out _ _ ⟨BX.cell 0, BX.cell 1, BX.cell 2, BX.cell 3, BY.cell 0, BY.cell 1, BY.cell 2, BY.cell 3⟩ (fun hHeld => ?_)
 clear hK K hb
 refine norm_ (a' := ?_) ?_ ?_
 rotate_left
 ·show Act.put _ (some 10) _ = _
  simp only [Act.put, pA, pB, pC]
  rfl
 refine pure_ (i := 6) (N := some 11) (v := ?_) (a' := ?_) (bq 9 127) rfl rfl (by kernel_rfl) (fun _ _ _ h => h) (Or.inl ⟨by rfl, ?_⟩) ?_ ?_
 rotate_left
 ·intro w'
  go_simp
  with_reducible rfl
 rotate_left
 ·simp only [Act.put, pA, pB, pC]
  rfl
 refine one_ (i := 7) (N := some 12) (bq 9 255) rfl rfl (by kernel_rfl) (by decide) (fun K hK => ?_)
 refine goes_ Tryz.func42 (by kernel_rfl) rfl #[.agg #[.bool false, .int .i64 x0, .bool x1, .int .u64 x2, .int .i64 x3, .int .i64 y0, .bool y1, .int .u64 y2, .int .i64 y3]] (by first | rfl | go_simp) rfl rfl (by simp only [List.map_toArray, List.map_cons, List.map_nil] <;> rfl) ?_
 with_reducible refine (HR.out _).mono ?_
 rintro e w5 ⟨rfl, hb⟩
 refine ⟨_, rfl, ?_⟩
 have BX := BX.call hb
 have BY := BY.call hb
 have BR := BR.call hb
 have HB := bl_trans HB hb
 refine hK.out _ _ ⟨BX.cell 0, BX.cell 1, BX.cell 2, BX.cell 3, BY.cell 0, BY.cell 1, BY.cell 2, BY.cell 3⟩ (fun hHeld => ?_)
 clear hK K hb
 refine norm_ (a' := ?_) ?_ ?_
 rotate_left
 ·show Act.put _ (some 12) _ = _
  simp only [Act.put, pA, pB, pC]
  rfl
 obtain ⟨⟨q0, q1, q2, q3, q4, q5, q6, q7, q8⟩, ⟨f0, f1, f2, f3, f4, f5, f6, f7, f8⟩⟩ := BR.c9
 obtain ⟨W6, hW6, B6, _, hL, _⟩ := put9 BR (.bool r0) (.int .i64 r1) (.bool r2) (.int .u64 r3) (.int .i64 r4) (.int .i64 r5) (.bool r6) (.int .u64 r7) (.int .i64 r8)
 have HB6 := hL w HB (by omega)
 refine last_ (i := 8) (N := none) (bq 9 511) rfl rfl (by kernel_rfl) (by decide) (fun K hK => ?_)
 refine skip_ (w1 := ?_) (by rfl) rfl ?_ ?_
 rotate_left
 ·go_simp
  rfl
 refine hK.out _ _ ?_
 clear hK K
 refine done_ (by kernel_rfl) ?_
 clear hHeld BX BY HB
 go_wp2
 exact bodyPost_ret (results_cell_row rfl _ _ (w.heap.size + 1 + 1) 39 #[.bool r0, .int .i64 r1, .bool r2, .int .u64 r3, .int .i64 r4, .int .i64 r5, .bool r6, .int .u64 r7, .int .i64 r8] (0, 0) _ rfl B6 Tryz.underlying39 rfl (by kernel_rfl)) rfl ⟨rfl, HB6⟩

set_option maxRecDepth 100000 in
set_option maxHeartbeats 2000000 in
theorem pointI_calls (a0 : Int) (a1 : Bool) (a2 a3 : Int) (w : World) :
  Calls Tryz.prog 147 #[.agg #[.int .i64 a0, .bool a1, .int .u64 a2, .int .i64 a3]] w fun e w' => e = .returned (.agg #[.bool (pointI ⟨a0, a1, a2, a3⟩).emp, .int .i64 ((pointI ⟨a0, a1, a2, a3⟩).lo).k, .bool ((pointI ⟨a0, a1, a2, a3⟩).lo).n, .int .u64 ((pointI ⟨a0, a1, a2, a3⟩).lo).m, .int .i64 ((pointI ⟨a0, a1, a2, a3⟩).lo).e, .int .i64 ((pointI ⟨a0, a1, a2, a3⟩).hi).k, .bool ((pointI ⟨a0, a1, a2, a3⟩).hi).n, .int .u64 ((pointI ⟨a0, a1, a2, a3⟩).hi).m, .int .i64 ((pointI ⟨a0, a1, a2, a3⟩).hi).e]) ∧ Below w.heap.size w w' := by
 unfold pointI
 have HM := Lib.hid (fun W => makeI_calls a0 a1 a2 a3 a0 a1 a2 a3 W)
 generalize makeI _ _ = r at HM ⊢
 obtain ⟨r0, ⟨r1, r2, r3, r4⟩, ⟨r5, r6, r7, r8⟩⟩ := r
 dsimp only at HM ⊢
 go_enter Tryz.func147, Tryz.ntmps147
 go_wp2_with (go_at_call 36; refine (HM.out _).mono ?_; rintro e w1 ⟨rfl, hb⟩; have BR1 := (Blk.new1 w _ _ _).call hb; have HB1 := bl_trans (bl_alloc (bl_alloc (Below.refl w.heap.size w) _) _) hb; obtain ⟨W3, hW3, B3, _, hL, _⟩ := put9 BR1 (.bool r0) (.int .i64 r1) (.bool r2) (.int .u64 r3) (.int .i64 r4) (.int .i64 r5) (.bool r6) (.int .u64 r7) (.int .i64 r8); have HB3 := hL w HB1 (by simp); obtain ⟨⟨q0, q1, q2, q3, q4, q5, q6, q7, q8⟩, ⟨f0, f1, f2, f3, f4, f5, f6, f7, f8⟩⟩ := BR1.c9; clear hb BR1 HB1 hL)
 exact bodyPost_ret (results_cell_row rfl _ _ (w.heap.size + 1) 39 #[.bool r0, .int .i64 r1, .bool r2, .int .u64 r3, .int .i64 r4, .int .i64 r5, .bool r6, .int .u64 r7, .int .i64 r8] (0, 0) _ rfl B3 Tryz.underlying39 rfl (by kernel_rfl)) rfl ⟨rfl, HB3⟩
end Go.Proofs.YtagojbgmgkkdpaaGreat.Wk
