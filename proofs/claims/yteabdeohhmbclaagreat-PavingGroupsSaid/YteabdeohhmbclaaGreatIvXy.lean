/- Walks: iv.fair, iv.Make, iv.Point, for every input (no condition). -/
import Derived.Test.YteabdeohhmbclaaGreatIvAy
namespace Go.Proofs.YteabdeohhmbclaaGreat.Wk
open Go.RowKit Go.Proofs.Pl Go.Proofs.YteabdeohhmbclaaGreatW.PrintLast
set_option linter.unusedSimpArgs false
set_option linter.unusedVariables false

set_option maxRecDepth 100000 in
set_option maxHeartbeats 2000000 in
theorem fairI_calls (a0 : Bool) (a1 : Int) (a2 : Bool) (a3 a4 a5 : Int) (a6 : Bool) (a7 a8 : Int) (w : World) :
  Calls Tryz.prog 29 #[.agg #[.b a0, .i a1, .b a2, .u a3, .i a4, .i a5, .b a6, .u a7, .i a8]] w fun e w' => e = .returned (.agg #[.b (fairI ⟨a0, ⟨a1, a2, a3, a4⟩, ⟨a5, a6, a7, a8⟩⟩).emp, .i ((fairI ⟨a0, ⟨a1, a2, a3, a4⟩, ⟨a5, a6, a7, a8⟩⟩).lo).k, .b ((fairI ⟨a0, ⟨a1, a2, a3, a4⟩, ⟨a5, a6, a7, a8⟩⟩).lo).n, .u ((fairI ⟨a0, ⟨a1, a2, a3, a4⟩, ⟨a5, a6, a7, a8⟩⟩).lo).m, .i ((fairI ⟨a0, ⟨a1, a2, a3, a4⟩, ⟨a5, a6, a7, a8⟩⟩).lo).e, .i ((fairI ⟨a0, ⟨a1, a2, a3, a4⟩, ⟨a5, a6, a7, a8⟩⟩).hi).k, .b ((fairI ⟨a0, ⟨a1, a2, a3, a4⟩, ⟨a5, a6, a7, a8⟩⟩).hi).n, .u ((fairI ⟨a0, ⟨a1, a2, a3, a4⟩, ⟨a5, a6, a7, a8⟩⟩).hi).m, .i ((fairI ⟨a0, ⟨a1, a2, a3, a4⟩, ⟨a5, a6, a7, a8⟩⟩).hi).e]) ∧ Below w.heap.size w w' := by
 unfold fairI
 have HM := Lib.hid (fun W => mayI_calls a0 a1 a2 a3 a4 a5 a6 a7 a8 W)
 generalize mayI ⟨a0, ⟨a1, a2, a3, a4⟩, ⟨a5, a6, a7, a8⟩⟩ = p at HM ⊢
 cases p
 ·show Calls _ _ _ _ fun e w' => e = .returned (.agg #[.b true, .i 0, .b false, .u 0, .i 0, .i 0, .b false, .u 0, .i 0]) ∧ _
  go_enter Tryz.func29, Tryz.ntmps29
  go_wp2_with (first
   | (go_at_call 27; refine (HM.out _).mono ?_; rintro e w1 ⟨rfl, hb⟩; have BR1 := (Blk.new1 w _ _ _).call hb; have HB1 := bl_trans (bl_alloc (bl_alloc (Below.refl w.heap.size w) _) _) hb; clear hb)
   | (go_at_call 35; refine (noneI_lit _).mono ?_; rintro e w2 ⟨rfl, hb⟩; have BR2 := BR1.call hb; have HB2 := bl_trans HB1 hb; obtain ⟨W3, hW3, B3, _, hL, _⟩ := put9 BR2 (.b true) (.i 0) (.b false) (.u 0) (.i 0) (.i 0) (.b false) (.u 0) (.i 0); have HB3 := hL w HB2 (by simp); obtain ⟨⟨q0, q1, q2, q3, q4, q5, q6, q7, q8⟩, ⟨f0, f1, f2, f3, f4, f5, f6, f7, f8⟩⟩ := BR2.c9; clear hb BR1 BR2 HB1 HB2 hL))
  exact bodyPost_ret (results_cell_row rfl _ _ (w.heap.size + 1) 34 #[.b true, .i 0, .b false, .u 0, .i 0, .i 0, .b false, .u 0, .i 0] (0, 0) _ rfl B3 Tryz.underlying34 rfl (by kernel_rfl)) rfl ⟨rfl, HB3⟩
 ·show Calls _ _ _ _ fun e w' => e = .returned (.agg #[.b a0, .i a1, .b a2, .u a3, .i a4, .i a5, .b a6, .u a7, .i a8]) ∧ _
  go_enter Tryz.func29, Tryz.ntmps29
  go_wp2_with (go_at_call 27; refine (HM.out _).mono ?_; rintro e w1 ⟨rfl, hb⟩; have BX1 := ((Blk.new w _ _).alloc _).call hb; have BR1 := (Blk.new1 w _ _ _).call hb; have HB1 := bl_trans (bl_alloc (bl_alloc (Below.refl w.heap.size w) _) _) hb; obtain ⟨W3, hW3, B3, _, hL, _⟩ := put9 BR1 (.b a0) (.i a1) (.b a2) (.u a3) (.i a4) (.i a5) (.b a6) (.u a7) (.i a8); have HB3 := hL w HB1 (by simp); obtain ⟨⟨p0, p1, p2, p3, p4, p5, p6, p7, p8⟩, ⟨g0, g1, g2, g3, g4, g5, g6, g7, g8⟩⟩ := BX1.c9; obtain ⟨⟨q0, q1, q2, q3, q4, q5, q6, q7, q8⟩, ⟨f0, f1, f2, f3, f4, f5, f6, f7, f8⟩⟩ := BR1.c9; clear hb BX1 BR1 HB1 hL)
  exact bodyPost_ret (results_cell_row rfl _ _ (w.heap.size + 1) 34 #[.b a0, .i a1, .b a2, .u a3, .i a4, .i a5, .b a6, .u a7, .i a8] (0, 0) _ rfl B3 Tryz.underlying34 rfl (by kernel_rfl)) rfl ⟨rfl, HB3⟩

set_option maxRecDepth 100000 in
set_option maxHeartbeats 4000000 in
theorem makeI_calls (a0 : Int) (a1 : Bool) (a2 a3 : Int) (b0 : Int) (b1 : Bool) (b2 b3 : Int) (w : World) :
  Calls Tryz.prog 16 #[.agg #[.i a0, .b a1, .u a2, .i a3], .agg #[.i b0, .b b1, .u b2, .i b3]] w fun e w' => e = .returned (.agg #[.b (makeI ⟨a0, a1, a2, a3⟩ ⟨b0, b1, b2, b3⟩).emp, .i ((makeI ⟨a0, a1, a2, a3⟩ ⟨b0, b1, b2, b3⟩).lo).k, .b ((makeI ⟨a0, a1, a2, a3⟩ ⟨b0, b1, b2, b3⟩).lo).n, .u ((makeI ⟨a0, a1, a2, a3⟩ ⟨b0, b1, b2, b3⟩).lo).m, .i ((makeI ⟨a0, a1, a2, a3⟩ ⟨b0, b1, b2, b3⟩).lo).e, .i ((makeI ⟨a0, a1, a2, a3⟩ ⟨b0, b1, b2, b3⟩).hi).k, .b ((makeI ⟨a0, a1, a2, a3⟩ ⟨b0, b1, b2, b3⟩).hi).n, .u ((makeI ⟨a0, a1, a2, a3⟩ ⟨b0, b1, b2, b3⟩).hi).m, .i ((makeI ⟨a0, a1, a2, a3⟩ ⟨b0, b1, b2, b3⟩).hi).e]) ∧ Below w.heap.size w w' := by
 unfold makeI
 have HX1 := Lib.hid (fun W => negN_calls a0 a1 a2 a3 W)
 have HY1 := Lib.hid (fun W => negN_calls b0 b1 b2 b3 W)
 generalize negN ⟨a0, a1, a2, a3⟩ = c at HX1 ⊢
 generalize negN ⟨b0, b1, b2, b3⟩ = d at HY1 ⊢
 obtain ⟨c0, c1, c2, c3⟩ := c
 obtain ⟨d0, d1, d2, d3⟩ := d
 have HX2 := Lib.hid (fun W => negN_calls c0 c1 c2 c3 W)
 have HY2 := Lib.hid (fun W => negN_calls d0 d1 d2 d3 W)
 generalize negN ⟨c0, c1, c2, c3⟩ = x at HX2 ⊢
 generalize negN ⟨d0, d1, d2, d3⟩ = y at HY2 ⊢
 obtain ⟨x0, x1, x2, x3⟩ := x
 obtain ⟨y0, y1, y2, y3⟩ := y
 have HR := Lib.hid (fun W => fairI_calls false x0 x1 x2 x3 y0 y1 y2 y3 W)
 generalize fairI _ = r at HR ⊢
 obtain ⟨r0, ⟨r1, r2, r3, r4⟩, ⟨r5, r6, r7, r8⟩⟩ := r
 dsimp only at HX1 HX2 HY1 HY2 HR ⊢
 go_enter Tryz.func16, Tryz.ntmps16
 go_wp2_with fail
 have BX := (((Blk.new w 32 #[.i a0, .b a1, .u a2, .i a3]).alloc (.cells #[.i b0, .b b1, .u b2, .i b3] 32)).alloc (.cells #[.b false, .i 0, .b false, .u 0, .i 0, .i 0, .b false, .u 0, .i 0] 34)).drew
 have BY := ((Blk.new1 w (.cells #[.i a0, .b a1, .u a2, .i a3] 32) 32 #[.i b0, .b b1, .u b2, .i b3]).alloc (.cells #[.b false, .i 0, .b false, .u 0, .i 0, .i 0, .b false, .u 0, .i 0] 34)).drew
 have BR0 := (Blk.new2 w (.cells #[.i a0, .b a1, .u a2, .i a3] 32) (.cells #[.i b0, .b b1, .u b2, .i b3] 32) 34 #[.b false, .i 0, .b false, .u 0, .i 0, .i 0, .b false, .u 0, .i 0]).drew
 have BR : Blk _ (w.heap.size + 1 + 1) _ _ := BR0
 clear BR0
 have HB := bl_drew (bl_alloc (bl_alloc (bl_alloc (Below.refl w.heap.size w) (.cells #[.i a0, .b a1, .u a2, .i a3] 32)) (.cells #[.i b0, .b b1, .u b2, .i b3] 32)) (.cells #[.b false, .i 0, .b false, .u 0, .i 0, .i 0, .b false, .u 0, .i 0] 34))
 refine start_ (n := 9) (S := fun w' => w'.cell? ⟨w.heap.size, 0, none⟩ = some (.i a0) ∧ w'.cell? ⟨w.heap.size, 1, none⟩ = some (.b a1) ∧ w'.cell? ⟨w.heap.size, 2, none⟩ = some (.u a2) ∧ w'.cell? ⟨w.heap.size, 3, none⟩ = some (.i a3) ∧ w'.cell? ⟨(w.heap.size + 1), 0, none⟩ = some (.i b0) ∧ w'.cell? ⟨(w.heap.size + 1), 1, none⟩ = some (.b b1) ∧ w'.cell? ⟨(w.heap.size + 1), 2, none⟩ = some (.u b2) ∧ w'.cell? ⟨(w.heap.size + 1), 3, none⟩ = some (.i b3)) (ds := [8]) (bq 9 0) (by kernel_rfl) rfl rfl ⟨BX.cell 0, BX.cell 1, BX.cell 2, BX.cell 3, BY.cell 0, BY.cell 1, BY.cell 2, BY.cell 3⟩ (fun hHeld => ?_)
 generalize ((((w.alloc (.cells #[.i a0, .b a1, .u a2, .i a3] 32)).alloc (.cells #[.i b0, .b b1, .u b2, .i b3] 32)).alloc (.cells #[.b false, .i 0, .b false, .u 0, .i 0, .i 0, .b false, .u 0, .i 0] 34)).drew) = W at BX BY BR HB hHeld ⊢
 refine tk 0 5 (bq 9 1) ?_ ?_ ?_ ?_ hHeld ?_
 rotate_left 2
 ·rintro w' ⟨s0_, s1_, s2_, s3_, s4_, s5_, s6_, s7_⟩
  go_simp
  with_reducible rfl
 ·simp only [Act.put, pA, pB, pC]
  rfl
 refine tk 3 8 (bq 9 9) ?_ ?_ ?_ ?_ hHeld ?_
 rotate_left 2
 ·rintro w' ⟨s0_, s1_, s2_, s3_, s4_, s5_, s6_, s7_⟩
  go_simp
  with_reducible rfl
 ·simp only [Act.put, pA, pB, pC]
  rfl
 refine on 1 6 (bq 9 11) (fun K hK => ?_)
 refine goes_ Tryz.func30 (by kernel_rfl) rfl #[.agg #[.i a0, .b a1, .u a2, .i a3]] (by first | rfl | go_simp) rfl rfl (by simp only [List.map_toArray, List.map_cons, List.map_nil] <;> rfl) ?_
 with_reducible refine (HX1.out _).mono ?_
 rintro e w1 ⟨rfl, hb⟩
 refine ⟨_, rfl, ?_⟩
 have BX := BX.call hb
 have BY := BY.call hb
 have BR := BR.call hb
 have HB := bl_trans HB hb
 refine hK.out _ _ ⟨BX.cell 0, BX.cell 1, BX.cell 2, BX.cell 3, BY.cell 0, BY.cell 1, BY.cell 2, BY.cell 3⟩ (fun hHeld => ?_)
 clear hK K hb
 refine norm_ (a' := ?_) ?_ ?_
 rotate_left
 ·show Act.put _ (some 6) _ = _
  simp only [Act.put, pA, pB, pC]
  rfl
 refine on 2 7 (bq 9 15) (fun K hK => ?_)
 refine goes_ Tryz.func30 (by kernel_rfl) rfl #[.agg #[.i c0, .b c1, .u c2, .i c3]] (by first | rfl | go_simp) rfl rfl (by simp only [List.map_toArray, List.map_cons, List.map_nil] <;> rfl) ?_
 with_reducible refine (HX2.out _).mono ?_
 rintro e w2 ⟨rfl, hb⟩
 refine ⟨_, rfl, ?_⟩
 have BX := BX.call hb
 have BY := BY.call hb
 have BR := BR.call hb
 have HB := bl_trans HB hb
 refine hK.out _ _ ⟨BX.cell 0, BX.cell 1, BX.cell 2, BX.cell 3, BY.cell 0, BY.cell 1, BY.cell 2, BY.cell 3⟩ (fun hHeld => ?_)
 clear hK K hb
 refine norm_ (a' := ?_) ?_ ?_
 rotate_left
 ·show Act.put _ (some 7) _ = _
  simp only [Act.put, pA, pB, pC]
  rfl
 refine on 4 9 (bq 9 31) (fun K hK => ?_)
 refine goes_ Tryz.func30 (by kernel_rfl) rfl #[.agg #[.i b0, .b b1, .u b2, .i b3]] (by first | rfl | go_simp) rfl rfl (by simp only [List.map_toArray, List.map_cons, List.map_nil] <;> rfl) ?_
 with_reducible refine (HY1.out _).mono ?_
 rintro e w3 ⟨rfl, hb⟩
 refine ⟨_, rfl, ?_⟩
 have BX := BX.call hb
 have BY := BY.call hb
 have BR := BR.call hb
 have HB := bl_trans HB hb
 refine hK.out _ _ ⟨BX.cell 0, BX.cell 1, BX.cell 2, BX.cell 3, BY.cell 0, BY.cell 1, BY.cell 2, BY.cell 3⟩ (fun hHeld => ?_)
 clear hK K hb
 refine norm_ (a' := ?_) ?_ ?_
 rotate_left
 ·show Act.put _ (some 9) _ = _
  simp only [Act.put, pA, pB, pC]
  rfl
 refine on 5 10 (bq 9 63) (fun K hK => ?_)
 refine goes_ Tryz.func30 (by kernel_rfl) rfl #[.agg #[.i d0, .b d1, .u d2, .i d3]] (by first | rfl | go_simp) rfl rfl (by simp only [List.map_toArray, List.map_cons, List.map_nil] <;> rfl) ?_
 with_reducible refine (HY2.out _).mono ?_
 rintro e w4 ⟨rfl, hb⟩
 refine ⟨_, rfl, ?_⟩
 have BX := BX.call hb
 have BY := BY.call hb
 have BR := BR.call hb
 have HB := bl_trans HB hb
 refine hK.out _ _ ⟨BX.cell 0, BX.cell 1, BX.cell 2, BX.cell 3, BY.cell 0, BY.cell 1, BY.cell 2, BY.cell 3⟩ (fun hHeld => ?_)
 clear hK K hb
 refine norm_ (a' := ?_) ?_ ?_
 rotate_left
 ·show Act.put _ (some 10) _ = _
  simp only [Act.put, pA, pB, pC]
  rfl
 refine pu 6 11 (bq 9 127) ?_ ?_ (fun _ => ?_) ?_ ?_
 rotate_left 2
 ·go_simp
  with_reducible rfl
 ·simp only [Act.put, pA, pB, pC]
  rfl
 refine on 7 12 (bq 9 255) (fun K hK => ?_)
 refine goes_ Tryz.func29 (by kernel_rfl) rfl #[.agg #[.b false, .i x0, .b x1, .u x2, .i x3, .i y0, .b y1, .u y2, .i y3]] (by first | rfl | go_simp) rfl rfl (by simp only [List.map_toArray, List.map_cons, List.map_nil] <;> rfl) ?_
 with_reducible refine (HR.out _).mono ?_
 rintro e w5 ⟨rfl, hb⟩
 refine ⟨_, rfl, ?_⟩
 have BX := BX.call hb
 have BY := BY.call hb
 have BR := BR.call hb
 have HB := bl_trans HB hb
 refine hK.out _ _ ⟨BX.cell 0, BX.cell 1, BX.cell 2, BX.cell 3, BY.cell 0, BY.cell 1, BY.cell 2, BY.cell 3⟩ (fun hHeld => ?_)
 clear hK K hb
 refine norm_ (a' := ?_) ?_ ?_
 rotate_left
 ·show Act.put _ (some 12) _ = _
  simp only [Act.put, pA, pB, pC]
  rfl
 obtain ⟨⟨q0, q1, q2, q3, q4, q5, q6, q7, q8⟩, ⟨f0, f1, f2, f3, f4, f5, f6, f7, f8⟩⟩ := BR.c9
 obtain ⟨W6, hW6, B6, _, hL, _⟩ := put9 BR (.b r0) (.i r1) (.b r2) (.u r3) (.i r4) (.i r5) (.b r6) (.u r7) (.i r8)
 have HB6 := hL w HB (by omega)
 refine last_ (i := 8) (N := none) (bq 9 511) rfl rfl (by kernel_rfl) (by decide) (fun K hK => ?_)
 refine skip_ (w1 := ?_) (by rfl) rfl ?_ ?_
 rotate_left
 ·go_simp
  rfl
 refine hK.out _ _ ?_
 clear hK K
 refine done_ (by kernel_rfl) ?_
 clear hHeld BX BY HB
 go_wp2
 exact bodyPost_ret (results_cell_row rfl _ _ (w.heap.size + 1 + 1) 34 #[.b r0, .i r1, .b r2, .u r3, .i r4, .i r5, .b r6, .u r7, .i r8] (0, 0) _ rfl B6 Tryz.underlying34 rfl (by kernel_rfl)) rfl ⟨rfl, HB6⟩

set_option maxRecDepth 100000 in
set_option maxHeartbeats 2000000 in
theorem pointI_calls (a0 : Int) (a1 : Bool) (a2 a3 : Int) (w : World) :
  Calls Tryz.prog 85 #[.agg #[.i a0, .b a1, .u a2, .i a3]] w fun e w' => e = .returned (.agg #[.b (pointI ⟨a0, a1, a2, a3⟩).emp, .i ((pointI ⟨a0, a1, a2, a3⟩).lo).k, .b ((pointI ⟨a0, a1, a2, a3⟩).lo).n, .u ((pointI ⟨a0, a1, a2, a3⟩).lo).m, .i ((pointI ⟨a0, a1, a2, a3⟩).lo).e, .i ((pointI ⟨a0, a1, a2, a3⟩).hi).k, .b ((pointI ⟨a0, a1, a2, a3⟩).hi).n, .u ((pointI ⟨a0, a1, a2, a3⟩).hi).m, .i ((pointI ⟨a0, a1, a2, a3⟩).hi).e]) ∧ Below w.heap.size w w' := by
 unfold pointI
 have HM := Lib.hid (fun W => makeI_calls a0 a1 a2 a3 a0 a1 a2 a3 W)
 generalize makeI _ _ = r at HM ⊢
 obtain ⟨r0, ⟨r1, r2, r3, r4⟩, ⟨r5, r6, r7, r8⟩⟩ := r
 dsimp only at HM ⊢
 go_enter Tryz.func85, Tryz.ntmps85
 go_wp2_with (go_at_call 16; refine (HM.out _).mono ?_; rintro e w1 ⟨rfl, hb⟩; have BR1 := (Blk.new1 w _ _ _).call hb; have HB1 := bl_trans (bl_alloc (bl_alloc (Below.refl w.heap.size w) _) _) hb; obtain ⟨W3, hW3, B3, _, hL, _⟩ := put9 BR1 (.b r0) (.i r1) (.b r2) (.u r3) (.i r4) (.i r5) (.b r6) (.u r7) (.i r8); have HB3 := hL w HB1 (by simp); obtain ⟨⟨q0, q1, q2, q3, q4, q5, q6, q7, q8⟩, ⟨f0, f1, f2, f3, f4, f5, f6, f7, f8⟩⟩ := BR1.c9; clear hb BR1 HB1 hL)
 exact bodyPost_ret (results_cell_row rfl _ _ (w.heap.size + 1) 34 #[.b r0, .i r1, .b r2, .u r3, .i r4, .i r5, .b r6, .u r7, .i r8] (0, 0) _ rfl B3 Tryz.underlying34 rfl (by kernel_rfl)) rfl ⟨rfl, HB3⟩
end Go.Proofs.YteabdeohhmbclaaGreat.Wk
namespace Go.Proofs.YteabdeohhmbclaaGreat.Wk
open Go.RowKit Go.Proofs.Pl Go.Proofs.YteabdeohhmbclaaGreatW.PrintLast
set_option linter.unusedSimpArgs false
set_option linter.unusedVariables false

set_option maxRecDepth 100000 in
set_option maxHeartbeats 8000000 in
theorem withinI_calls (a0 : Bool) (a1 : Int) (a2 : Bool) (a3 a4 a5 : Int) (a6 : Bool) (a7 a8 : Int) (b0 : Bool) (b1 : Int) (b2 : Bool) (b3 b4 b5 : Int) (b6 : Bool) (b7 b8 : Int) (w : World) :
  Calls Tryz.prog 86 #[.agg #[.b a0, .i a1, .b a2, .u a3, .i a4, .i a5, .b a6, .u a7, .i a8], .agg #[.b b0, .i b1, .b b2, .u b3, .i b4, .i b5, .b b6, .u b7, .i b8]] w fun e w' => e = .returned (.b (withinI ⟨a0, ⟨a1, a2, a3, a4⟩, ⟨a5, a6, a7, a8⟩⟩ ⟨b0, ⟨b1, b2, b3, b4⟩, ⟨b5, b6, b7, b8⟩⟩)) ∧ Below w.heap.size w w' := by
 unfold withinI withinF
 have HF := Lib.hid (fun W => fairI_calls a0 a1 a2 a3 a4 a5 a6 a7 a8 W)
 have HG := Lib.hid (fun W => fairI_calls b0 b1 b2 b3 b4 b5 b6 b7 b8 W)
 generalize fairI ⟨a0, ⟨a1, a2, a3, a4⟩, ⟨a5, a6, a7, a8⟩⟩ = c at HF ⊢
 generalize fairI ⟨b0, ⟨b1, b2, b3, b4⟩, ⟨b5, b6, b7, b8⟩⟩ = d at HG ⊢
 obtain ⟨c0, ⟨c1, c2, c3, c4⟩, ⟨c5, c6, c7, c8⟩⟩ := c
 obtain ⟨d0, ⟨d1, d2, d3, d4⟩, ⟨d5, d6, d7, d8⟩⟩ := d
 dsimp only at HF HG ⊢
 have HC := Lib.hid (fun W => cmpN_calls d1 d2 d3 d4 c1 c2 c3 c4 W)
 have HD := Lib.hid (fun W => cmpN_calls c5 c6 c7 c8 d5 d6 d7 d8 W)
 generalize cmpN ⟨d1, d2, d3, d4⟩ ⟨c1, c2, c3, c4⟩ = l at HC ⊢
 generalize cmpN ⟨c5, c6, c7, c8⟩ ⟨d5, d6, d7, d8⟩ = h at HD ⊢
 have BX := ((Blk.new w 34 #[.b a0, .i a1, .b a2, .u a3, .i a4, .i a5, .b a6, .u a7, .i a8]).alloc (.cells #[.b b0, .i b1, .b b2, .u b3, .i b4, .i b5, .b b6, .u b7, .i b8] 34)).drew
 have BY := (Blk.new1 w (.cells #[.b a0, .i a1, .b a2, .u a3, .i a4, .i a5, .b a6, .u a7, .i a8] 34) 34 #[.b b0, .i b1, .b b2, .u b3, .i b4, .i b5, .b b6, .u b7, .i b8]).drew
 have HB := bl_drew (bl_alloc (bl_alloc (Below.refl w.heap.size w) (.cells #[.b a0, .i a1, .b a2, .u a3, .i a4, .i a5, .b a6, .u a7, .i a8] 34)) (.cells #[.b b0, .i b1, .b b2, .u b3, .i b4, .i b5, .b b6, .u b7, .i b8] 34))
 go_enter Tryz.func86, Tryz.ntmps86
 go_wp2_with fail
 refine start_ (n := 6) (S := fun w' => w'.cell? ⟨w.heap.size, 0, none⟩ = some (.b a0) ∧ w'.cell? ⟨w.heap.size, 1, none⟩ = some (.i a1) ∧ w'.cell? ⟨w.heap.size, 2, none⟩ = some (.b a2) ∧ w'.cell? ⟨w.heap.size, 3, none⟩ = some (.u a3) ∧ w'.cell? ⟨w.heap.size, 4, none⟩ = some (.i a4) ∧ w'.cell? ⟨w.heap.size, 5, none⟩ = some (.i a5) ∧ w'.cell? ⟨w.heap.size, 6, none⟩ = some (.b a6) ∧ w'.cell? ⟨w.heap.size, 7, none⟩ = some (.u a7) ∧ w'.cell? ⟨w.heap.size, 8, none⟩ = some (.i a8) ∧ w'.cell? ⟨(w.heap.size + 1), 0, none⟩ = some (.b b0) ∧ w'.cell? ⟨(w.heap.size + 1), 1, none⟩ = some (.i b1) ∧ w'.cell? ⟨(w.heap.size + 1), 2, none⟩ = some (.b b2) ∧ w'.cell? ⟨(w.heap.size + 1), 3, none⟩ = some (.u b3) ∧ w'.cell? ⟨(w.heap.size + 1), 4, none⟩ = some (.i b4) ∧ w'.cell? ⟨(w.heap.size + 1), 5, none⟩ = some (.i b5) ∧ w'.cell? ⟨(w.heap.size + 1), 6, none⟩ = some (.b b6) ∧ w'.cell? ⟨(w.heap.size + 1), 7, none⟩ = some (.u b7) ∧ w'.cell? ⟨(w.heap.size + 1), 8, none⟩ = some (.i b8)) (ds := [4, 5]) (bq 6 0) (by kernel_rfl) rfl rfl ⟨BX.cell 0, BX.cell 1, BX.cell 2, BX.cell 3, BX.cell 4, BX.cell 5, BX.cell 6, BX.cell 7, BX.cell 8, BY.cell 0, BY.cell 1, BY.cell 2, BY.cell 3, BY.cell 4, BY.cell 5, BY.cell 6, BY.cell 7, BY.cell 8⟩ (fun hHeld => ?_)
 generalize (((w.alloc (.cells #[.b a0, .i a1, .b a2, .u a3, .i a4, .i a5, .b a6, .u a7, .i a8] 34)).alloc (.cells #[.b b0, .i b1, .b b2, .u b3, .i b4, .i b5, .b b6, .u b7, .i b8] 34)).drew) = W at BX BY HB hHeld ⊢
 refine tk 0 5 (bq 6 1) ?_ ?_ ?_ ?_ hHeld ?_
 rotate_left 2
 ·rintro w' ⟨s0_, s1_, s2_, s3_, s4_, s5_, s6_, s7_, s8_, s9_, s10_, s11_, s12_, s13_, s14_, s15_, s16_, s17_⟩
  go_simp
  with_reducible rfl
 ·simp only [Act.put, pA, pB, pC]
  rfl
 refine tk 2 7 (bq 6 5) ?_ ?_ ?_ ?_ hHeld ?_
 rotate_left 2
 ·rintro w' ⟨s0_, s1_, s2_, s3_, s4_, s5_, s6_, s7_, s8_, s9_, s10_, s11_, s12_, s13_, s14_, s15_, s16_, s17_⟩
  go_simp
  with_reducible rfl
 ·simp only [Act.put, pA, pB, pC]
  rfl
 refine on 1 6 (bq 6 7) (fun K hK => ?_)
 refine goes_ Tryz.func29 (by kernel_rfl) rfl #[.agg #[.b a0, .i a1, .b a2, .u a3, .i a4, .i a5, .b a6, .u a7, .i a8]] (by first | rfl | go_simp) rfl rfl (by simp only [List.map_toArray, List.map_cons, List.map_nil] <;> rfl) ?_
 with_reducible refine (HF.out _).mono ?_
 rintro e w1 ⟨rfl, hb⟩
 refine ⟨_, rfl, ?_⟩
 have BX := BX.call hb
 have BY := BY.call hb
 have HB := bl_trans HB hb
 refine hK.out _ _ ⟨BX.cell 0, BX.cell 1, BX.cell 2, BX.cell 3, BX.cell 4, BX.cell 5, BX.cell 6, BX.cell 7, BX.cell 8, BY.cell 0, BY.cell 1, BY.cell 2, BY.cell 3, BY.cell 4, BY.cell 5, BY.cell 6, BY.cell 7, BY.cell 8⟩ (fun hHeld => ?_)
 clear hK K hb
 refine norm_ (a' := ?_) ?_ ?_
 rotate_left
 ·show Act.put _ (some 6) _ = _
  simp only [Act.put, pA, pB, pC]
  rfl
 refine on 3 8 (bq 6 15) (fun K hK => ?_)
 refine goes_ Tryz.func29 (by kernel_rfl) rfl #[.agg #[.b b0, .i b1, .b b2, .u b3, .i b4, .i b5, .b b6, .u b7, .i b8]] (by first | rfl | go_simp) rfl rfl (by simp only [List.map_toArray, List.map_cons, List.map_nil] <;> rfl) ?_
 with_reducible refine (HG.out _).mono ?_
 rintro e w2 ⟨rfl, hb⟩
 refine ⟨_, rfl, ?_⟩
 have BX := BX.call hb
 have BY := BY.call hb
 have HB := bl_trans HB hb
 refine hK.out _ _ ⟨BX.cell 0, BX.cell 1, BX.cell 2, BX.cell 3, BX.cell 4, BX.cell 5, BX.cell 6, BX.cell 7, BX.cell 8, BY.cell 0, BY.cell 1, BY.cell 2, BY.cell 3, BY.cell 4, BY.cell 5, BY.cell 6, BY.cell 7, BY.cell 8⟩ (fun hHeld => ?_)
 clear hK K hb
 refine norm_ (a' := ?_) ?_ ?_
 rotate_left
 ·show Act.put _ (some 8) _ = _
  simp only [Act.put, pA, pB, pC]
  rfl
 obtain ⟨⟨q0, q1, q2, q3, q4, q5, q6, q7, q8⟩, ⟨f0, f1, f2, f3, f4, f5, f6, f7, f8⟩⟩ := BX.c9
 obtain ⟨W3, hW3, BX3, hK3, hL3, _⟩ := put9 BX (.b c0) (.i c1) (.b c2) (.u c3) (.i c4) (.i c5) (.b c6) (.u c7) (.i c8)
 have BY3 := hK3 _ _ _ (by simp) BY
 have HB3 := hL3 w HB (Nat.le_refl _)
 refine last_ (i := 4) (N := none) (bq 6 31) rfl rfl (by kernel_rfl) (by decide) (fun K hK => ?_)
 refine skip_ (w1 := ?_) (by rfl) rfl ?_ ?_
 rotate_left
 ·go_simp
  rfl
 refine hK.out _ _ ?_
 clear hK K
 clear q0 f0 q1 f1 q2 f2 q3 f3 q4 f4 q5 f5 q6 f6 q7 f7 q8 f8 hW3
 obtain ⟨⟨q0, q1, q2, q3, q4, q5, q6, q7, q8⟩, ⟨f0, f1, f2, f3, f4, f5, f6, f7, f8⟩⟩ := BY3.c9
 obtain ⟨W4, hW4, BY4, hK4, hL4, _⟩ := put9 BY3 (.b d0) (.i d1) (.b d2) (.u d3) (.i d4) (.i d5) (.b d6) (.u d7) (.i d8)
 have BX4 := hK4 _ _ _ (by simp) BX3
 have HB4 := hL4 w HB3 (by simp)
 refine last_ (i := 5) (N := none) (bq 6 63) rfl rfl (by kernel_rfl) (by decide) (fun K hK => ?_)
 refine skip_ (w1 := ?_) (by rfl) rfl ?_ ?_
 rotate_left
 ·go_simp
  rfl
 refine hK.out _ _ ?_
 clear hK K
 refine done_ (by kernel_rfl) ?_
 clear q0 f0 q1 f1 q2 f2 q3 f3 q4 f4 q5 f5 q6 f6 q7 f7 q8 f8 hW4 hHeld hK3 hL3 hK4 hL4 BX BY BX3 BY3 HB HB3
 cases c0
 ·cases d0
  ·cases hl : decide (l ≤ 0)
   ·have Hl := Lib.hid hl
    obtain ⟨⟨p0, p1, p2, p3, p4, p5, p6, p7, p8⟩, _⟩ := BX4.c9
    obtain ⟨⟨r0, r1, r2, r3, r4, r5, r6, r7, r8⟩, _⟩ := BY4.c9
    go_wp2_with (go_at_call 28; first
     | ((with_reducible refine (HC.out _).mono ?_); rintro e w5 ⟨rfl, hb⟩; have BX5 := BX4.call hb; have BY5 := BY4.call hb; have HB5 := bl_trans HB4 hb; obtain ⟨⟨u0, u1, u2, u3, u4, u5, u6, u7, u8⟩, _⟩ := BX5.c9; obtain ⟨⟨v0, v1, v2, v3, v4, v5, v6, v7, v8⟩, _⟩ := BY5.c9; clear hb)
     | ((with_reducible refine (HD.out _).mono ?_); rintro e w6 ⟨rfl, hb⟩; have HB6 := bl_trans HB5 hb; clear hb))
    all_goals go_ret
    all_goals exact ⟨by first | rfl | (simp; done) | (rw [Hl.out]; rfl) | (rw [Hl.out, Hh.out]; rfl), by first | exact HB6 | exact HB5 | exact HB4⟩
   ·have Hl := Lib.hid hl
    cases hh : decide (h ≤ 0)
    ·have Hh := Lib.hid hh
     obtain ⟨⟨p0, p1, p2, p3, p4, p5, p6, p7, p8⟩, _⟩ := BX4.c9
     obtain ⟨⟨r0, r1, r2, r3, r4, r5, r6, r7, r8⟩, _⟩ := BY4.c9
     go_wp2_with (go_at_call 28; first
      | ((with_reducible refine (HC.out _).mono ?_); rintro e w5 ⟨rfl, hb⟩; have BX5 := BX4.call hb; have BY5 := BY4.call hb; have HB5 := bl_trans HB4 hb; obtain ⟨⟨u0, u1, u2, u3, u4, u5, u6, u7, u8⟩, _⟩ := BX5.c9; obtain ⟨⟨v0, v1, v2, v3, v4, v5, v6, v7, v8⟩, _⟩ := BY5.c9; clear hb)
      | ((with_reducible refine (HD.out _).mono ?_); rintro e w6 ⟨rfl, hb⟩; have HB6 := bl_trans HB5 hb; clear hb))
     all_goals go_ret
     all_goals exact ⟨by first | rfl | (simp; done) | (rw [Hl.out]; rfl) | (rw [Hl.out, Hh.out]; rfl), by first | exact HB6 | exact HB5 | exact HB4⟩
    ·have Hh := Lib.hid hh
     obtain ⟨⟨p0, p1, p2, p3, p4, p5, p6, p7, p8⟩, _⟩ := BX4.c9
     obtain ⟨⟨r0, r1, r2, r3, r4, r5, r6, r7, r8⟩, _⟩ := BY4.c9
     go_wp2_with (go_at_call 28; first
      | ((with_reducible refine (HC.out _).mono ?_); rintro e w5 ⟨rfl, hb⟩; have BX5 := BX4.call hb; have BY5 := BY4.call hb; have HB5 := bl_trans HB4 hb; obtain ⟨⟨u0, u1, u2, u3, u4, u5, u6, u7, u8⟩, _⟩ := BX5.c9; obtain ⟨⟨v0, v1, v2, v3, v4, v5, v6, v7, v8⟩, _⟩ := BY5.c9; clear hb)
      | ((with_reducible refine (HD.out _).mono ?_); rintro e w6 ⟨rfl, hb⟩; have HB6 := bl_trans HB5 hb; clear hb))
     all_goals go_ret
     all_goals exact ⟨by first | rfl | (simp; done) | (rw [Hl.out]; rfl) | (rw [Hl.out, Hh.out]; rfl), by first | exact HB6 | exact HB5 | exact HB4⟩
  ·skip
   obtain ⟨⟨p0, p1, p2, p3, p4, p5, p6, p7, p8⟩, _⟩ := BX4.c9
   obtain ⟨⟨r0, r1, r2, r3, r4, r5, r6, r7, r8⟩, _⟩ := BY4.c9
   go_wp2_with (go_at_call 28; first
    | ((with_reducible refine (HC.out _).mono ?_); rintro e w5 ⟨rfl, hb⟩; have BX5 := BX4.call hb; have BY5 := BY4.call hb; have HB5 := bl_trans HB4 hb; obtain ⟨⟨u0, u1, u2, u3, u4, u5, u6, u7, u8⟩, _⟩ := BX5.c9; obtain ⟨⟨v0, v1, v2, v3, v4, v5, v6, v7, v8⟩, _⟩ := BY5.c9; clear hb)
    | ((with_reducible refine (HD.out _).mono ?_); rintro e w6 ⟨rfl, hb⟩; have HB6 := bl_trans HB5 hb; clear hb))
   all_goals go_ret
   all_goals exact ⟨by first | rfl | (simp; done) | (rw [Hl.out]; rfl) | (rw [Hl.out, Hh.out]; rfl), by first | exact HB6 | exact HB5 | exact HB4⟩
 ·skip
  obtain ⟨⟨p0, p1, p2, p3, p4, p5, p6, p7, p8⟩, _⟩ := BX4.c9
  obtain ⟨⟨r0, r1, r2, r3, r4, r5, r6, r7, r8⟩, _⟩ := BY4.c9
  go_wp2_with (go_at_call 28; first
   | ((with_reducible refine (HC.out _).mono ?_); rintro e w5 ⟨rfl, hb⟩; have BX5 := BX4.call hb; have BY5 := BY4.call hb; have HB5 := bl_trans HB4 hb; obtain ⟨⟨u0, u1, u2, u3, u4, u5, u6, u7, u8⟩, _⟩ := BX5.c9; obtain ⟨⟨v0, v1, v2, v3, v4, v5, v6, v7, v8⟩, _⟩ := BY5.c9; clear hb)
   | ((with_reducible refine (HD.out _).mono ?_); rintro e w6 ⟨rfl, hb⟩; have HB6 := bl_trans HB5 hb; clear hb))
  all_goals go_ret
  all_goals exact ⟨by first | rfl | (simp; done) | (rw [Hl.out]; rfl) | (rw [Hl.out, Hh.out]; rfl), by first | exact HB6 | exact HB5 | exact HB4⟩

set_option maxRecDepth 100000 in
set_option maxHeartbeats 4000000 in
theorem hasI_calls (a0 : Bool) (a1 : Int) (a2 : Bool) (a3 a4 a5 : Int) (a6 : Bool) (a7 a8 : Int) (b0 : Int) (b1 : Bool) (b2 b3 : Int) (w : World) :
  Calls Tryz.prog 75 #[.agg #[.b a0, .i a1, .b a2, .u a3, .i a4, .i a5, .b a6, .u a7, .i a8], .agg #[.i b0, .b b1, .u b2, .i b3]] w fun e w' => e = .returned (.b (hasI ⟨a0, ⟨a1, a2, a3, a4⟩, ⟨a5, a6, a7, a8⟩⟩ ⟨b0, b1, b2, b3⟩)) ∧ Below w.heap.size w w' := by
 unfold hasI
 have HP := Lib.hid (fun W => pointI_calls b0 b1 b2 b3 W)
 generalize pointI ⟨b0, b1, b2, b3⟩ = r at HP ⊢
 obtain ⟨r0, ⟨r1, r2, r3, r4⟩, ⟨r5, r6, r7, r8⟩⟩ := r
 dsimp only at HP ⊢
 have HW := Lib.hid (fun W => withinI_calls r0 r1 r2 r3 r4 r5 r6 r7 r8 a0 a1 a2 a3 a4 a5 a6 a7 a8 W)
 generalize withinI _ _ = q at HW ⊢
 cases r0
 all_goals
  go_enter Tryz.func75, Tryz.ntmps75
  go_wp2_with (first
   | (go_at_call 85; refine (HP.out _).mono ?_; rintro e w1 ⟨rfl, hb⟩; have hz : w.heap.size + 1 < w1.heap.size := (by have := hb.size; simp at this; omega); have hz0 : w.heap.size < w1.heap.size := (by omega); have BX1 := ((Blk.new w _ _).alloc _).call hb; have HB1 := bl_trans (bl_alloc (bl_alloc (Below.refl w.heap.size w) _) _) hb; obtain ⟨⟨q0, q1, q2, q3, q4, q5, q6, q7, q8⟩, ⟨f0, f1, f2, f3, f4, f5, f6, f7, f8⟩⟩ := BX1.c9; clear hb BX1)
   | (go_at_call 86; refine (HW.out _).mono ?_; rintro e w2 ⟨rfl, hb⟩; have HB2 := bl_trans (by repeat (first | exact HB1 | refine bl_set ?_ (by simp; omega) _ | apply bl_alloc)) hb; clear hb))
  go_ret
  exact ⟨by first | rfl | (simp; done), by first | exact HB2 | (repeat (first | exact HB1 | refine bl_set ?_ (by simp; omega) _ | apply bl_alloc))⟩
end Go.Proofs.YteabdeohhmbclaaGreat.Wk
