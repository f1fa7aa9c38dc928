/- Walk: peloruslaw08.IvWider returns true, for every input. -/
import Derived.Test.YtagojbgmgkkdpaaAw08
import Derived.Test.YtagojbgmgkkdpaaArZ
namespace Go.Proofs.Ytagojbgmgkkdpaa.Wk
open Go.RowKit Go.Proofs.Pl Go.Proofs.YtagojbgmgkkdpaaW.PrintLast
set_option linter.unusedSimpArgs false
set_option linter.unusedVariables false

set_option maxRecDepth 100000 in
set_option maxHeartbeats 8000000 in
theorem ivWider_calls (x0 : Bool) (x1 : Int) (x2 : Bool) (x3 x4 x5 : Int) (x6 : Bool) (x7 x8 : Int) (a0 : Int) (a1 : Bool) (a2 a3 : Int) (b0 : Int) (b1 : Bool) (b2 b3 : Int) (w : World) (wx : WfIv ⟨x0, ⟨x1, x2, x3, x4⟩, ⟨x5, x6, x7, x8⟩⟩) (wa : Wf ⟨a0, a1, a2, a3⟩) (wb : Wf ⟨b0, b1, b2, b3⟩) :
    Calls Try.prog 3 #[.agg #[.bool x0, .int .i64 x1, .bool x2, .int .u64 x3, .int .i64 x4, .int .i64 x5, .bool x6, .int .u64 x7, .int .i64 x8], .agg #[.int .i64 a0, .bool a1, .int .u64 a2, .int .i64 a3], .agg #[.int .i64 b0, .bool b1, .int .u64 b2, .int .i64 b3]] w fun e w' => e = .returned (.bool true) ∧ Below w.heap.size w w' := by
  have HL := Lib.hid (fun p q r => law_wider ⟨x0, ⟨x1, x2, x3, x4⟩, ⟨x5, x6, x7, x8⟩⟩ ⟨a0, a1, a2, a3⟩ ⟨b0, b1, b2, b3⟩ p wx wa wb q r)
  have HX := Lib.hid (fun W => mayI_calls x0 x1 x2 x3 x4 x5 x6 x7 x8 W)
  have HS := Lib.hid (fun W => signN_calls a0 a1 a2 a3 W)
  have HC := Lib.hid (fun W => cmpN_calls a0 a1 a2 a3 b0 b1 b2 b3 W)
  have HY := Lib.hid (fun W => inflateI_calls x0 x1 x2 x3 x4 x5 x6 x7 x8 a0 a1 a2 a3 wx wa W)
  have HZ := Lib.hid (fun W => inflateI_calls x0 x1 x2 x3 x4 x5 x6 x7 x8 b0 b1 b2 b3 wx wb W)
  have H0 := Lib.hid (fun W => inflateI_calls x0 x1 x2 x3 x4 x5 x6 x7 x8 0 false 0 0 wx zero_wf W)
  generalize mayI ⟨x0, ⟨x1, x2, x3, x4⟩, ⟨x5, x6, x7, x8⟩⟩ = m at HX HL
  generalize signN ⟨a0, a1, a2, a3⟩ = s at HS HL
  generalize cmpN ⟨a0, a1, a2, a3⟩ ⟨b0, b1, b2, b3⟩ = c at HC HL
  generalize inflateI ⟨x0, ⟨x1, x2, x3, x4⟩, ⟨x5, x6, x7, x8⟩⟩ ⟨a0, a1, a2, a3⟩ = y at HY HL
  generalize inflateI ⟨x0, ⟨x1, x2, x3, x4⟩, ⟨x5, x6, x7, x8⟩⟩ ⟨b0, b1, b2, b3⟩ = z at HZ HL
  clear wx wa wb
  have X0 := ((Blk.new w 26 #[.bool x0, .int .i64 x1, .bool x2, .int .u64 x3, .int .i64 x4, .int .i64 x5, .bool x6, .int .u64 x7, .int .i64 x8]).alloc (.cells #[.int .i64 a0, .bool a1, .int .u64 a2, .int .i64 a3] 24)).alloc (.cells #[.int .i64 b0, .bool b1, .int .u64 b2, .int .i64 b3] 24)
  have A0 := (Blk.new1 w (.cells #[.bool x0, .int .i64 x1, .bool x2, .int .u64 x3, .int .i64 x4, .int .i64 x5, .bool x6, .int .u64 x7, .int .i64 x8] 26) 24 #[.int .i64 a0, .bool a1, .int .u64 a2, .int .i64 a3]).alloc (.cells #[.int .i64 b0, .bool b1, .int .u64 b2, .int .i64 b3] 24)
  have B0 := Blk.new2 w (.cells #[.bool x0, .int .i64 x1, .bool x2, .int .u64 x3, .int .i64 x4, .int .i64 x5, .bool x6, .int .u64 x7, .int .i64 x8] 26) (.cells #[.int .i64 a0, .bool a1, .int .u64 a2, .int .i64 a3] 24) 24 #[.int .i64 b0, .bool b1, .int .u64 b2, .int .i64 b3]
  have HB0 := bl_alloc (bl_alloc (bl_alloc (Below.refl w.heap.size w) (.cells #[.bool x0, .int .i64 x1, .bool x2, .int .u64 x3, .int .i64 x4, .int .i64 x5, .bool x6, .int .u64 x7, .int .i64 x8] 26)) (.cells #[.int .i64 a0, .bool a1, .int .u64 a2, .int .i64 a3] 24)) (.cells #[.int .i64 b0, .bool b1, .int .u64 b2, .int .i64 b3] 24)
  cases m
  · clear HL HS HC HY HZ H0
    go_enter Try.func3, Try.ntmps3
    go_wp2_with (first
      | (go_at_call 13; (refine (awake08_calls _).mono ?_); rintro e' w1 ⟨rfl, hb⟩; have X1 := X0.call hb; have HB1 := bl_trans HB0 hb; clear hb; obtain ⟨⟨p0, p1, p2, p3, p4, p5, p6, p7, p8⟩, _⟩ := X1.c9)
      | (go_at_call 14; (refine (HX.out _).mono ?_); rintro e' w2 ⟨rfl, hb⟩; have HB2 := bl_trans HB1 hb; clear hb))
    go_ret
    exact ⟨rfl, HB2⟩
  · by_cases hs : s < 0
    · clear HL HC HY HZ H0
      go_enter Try.func3, Try.ntmps3
      go_wp2_with (first
        | (go_at_call 13; (refine (awake08_calls _).mono ?_); rintro e' w1 ⟨rfl, hb⟩; have X1 := X0.call hb; have A1 := A0.call hb; have HB1 := bl_trans HB0 hb; clear hb; obtain ⟨⟨p0, p1, p2, p3, p4, p5, p6, p7, p8⟩, _⟩ := X1.c9)
        | (go_at_call 14; (refine (HX.out _).mono ?_); rintro e' w2 ⟨rfl, hb⟩; have A2 := A1.call hb; have HB2 := bl_trans HB1 hb; clear hb; obtain ⟨⟨r0, r1, r2, r3⟩, _⟩ := A2.c4)
        | (go_at_call 15; (refine (HS.out _).mono ?_); rintro e' w3 ⟨rfl, hb⟩; have HB3 := bl_trans HB2 hb; clear hb))
      go_ret
      exact ⟨rfl, HB3⟩
    · by_cases hc : 0 < c
      · clear HL HY HZ H0
        go_enter Try.func3, Try.ntmps3
        go_wp2_with (first
          | (go_at_call 13; (refine (awake08_calls _).mono ?_); rintro e' w1 ⟨rfl, hb⟩; have X1 := X0.call hb; have A1 := A0.call hb; have B1 := B0.call hb; have HB1 := bl_trans HB0 hb; clear hb; obtain ⟨⟨p0, p1, p2, p3, p4, p5, p6, p7, p8⟩, _⟩ := X1.c9)
          | (go_at_call 14; (refine (HX.out _).mono ?_); rintro e' w2 ⟨rfl, hb⟩; have A2 := A1.call hb; have B2 := B1.call hb; have HB2 := bl_trans HB1 hb; clear hb; obtain ⟨⟨r0, r1, r2, r3⟩, _⟩ := A2.c4)
          | (go_at_call 15; (refine (HS.out _).mono ?_); rintro e' w3 ⟨rfl, hb⟩; have A3 := A2.call hb; have B3 := B2.call hb; have HB3 := bl_trans HB2 hb; clear hb r0 r1 r2 r3; obtain ⟨⟨r0, r1, r2, r3⟩, _⟩ := A3.c4; obtain ⟨⟨t0, t1, t2, t3⟩, _⟩ := B3.c4)
          | (go_at_call 16; (refine (HC.out _).mono ?_); rintro e' w4 ⟨rfl, hb⟩; have HB4 := bl_trans HB3 hb; clear hb))
        go_ret
        exact ⟨rfl, HB4⟩
      · obtain ⟨q1, q2, q3, q4⟩ := HL.out rfl hs hc
        change inflateI ⟨x0, ⟨x1, x2, x3, x4⟩, ⟨x5, x6, x7, x8⟩⟩ ⟨0, false, 0, 0⟩ = ⟨x0, ⟨x1, x2, x3, x4⟩, ⟨x5, x6, x7, x8⟩⟩ at q3
        rw [q3] at H0
        obtain ⟨y0, ⟨y1, y2, y3, y4⟩, ⟨y5, y6, y7, y8⟩⟩ := y
        obtain ⟨z0, ⟨z1, z2, z3, z4⟩, ⟨z5, z6, z7, z8⟩⟩ := z
        have HW1 := Lib.hid (fun W => withinI_calls x0 x1 x2 x3 x4 x5 x6 x7 x8 y0 y1 y2 y3 y4 y5 y6 y7 y8 W)
        have HW2 := Lib.hid (fun W => withinI_calls y0 y1 y2 y3 y4 y5 y6 y7 y8 z0 z1 z2 z3 z4 z5 z6 z7 z8 W)
        have HMZ := Lib.hid (fun W => mayI_calls z0 z1 z2 z3 z4 z5 z6 z7 z8 W)
        rw [q1] at HW1
        rw [q2] at HW2
        rw [q4] at HMZ
        dsimp only at H0 HY HZ
        clear q1 q2 q3 q4 HL
        go_enter Try.func3, Try.ntmps3
        go_wp2_with (first
          | (go_at_call 13; (refine (awake08_calls _).mono ?_); rintro e' w1 ⟨rfl, hb⟩; have X1 := X0.call hb; have A1 := A0.call hb; have B1 := B0.call hb; have HB1 := bl_trans HB0 hb; clear hb; obtain ⟨⟨p0, p1, p2, p3, p4, p5, p6, p7, p8⟩, _⟩ := X1.c9)
          | (go_at_call 14; (refine (HX.out _).mono ?_); rintro e' w2 ⟨rfl, hb⟩; have X2 := X1.call hb; have A2 := A1.call hb; have B2 := B1.call hb; have HB2 := bl_trans HB1 hb; clear hb p0 p1 p2 p3 p4 p5 p6 p7 p8; obtain ⟨⟨r0, r1, r2, r3⟩, _⟩ := A2.c4)
          | (go_at_call 15; (refine (HS.out _).mono ?_); rintro e' w3 ⟨rfl, hb⟩; have X3 := X2.call hb; have A3 := A2.call hb; have B3 := B2.call hb; have HB3 := bl_trans HB2 hb; clear hb r0 r1 r2 r3; obtain ⟨⟨r0, r1, r2, r3⟩, _⟩ := A3.c4; obtain ⟨⟨t0, t1, t2, t3⟩, _⟩ := B3.c4)
          | (go_at_call 16; (refine (HC.out _).mono ?_); rintro e' w4 ⟨rfl, hb⟩; have X4 := X3.call hb; have A4 := A3.call hb; have B4 := B3.call hb; have HB4 := bl_trans HB3 hb; clear hb r0 r1 r2 r3 t0 t1 t2 t3; obtain ⟨⟨p0, p1, p2, p3, p4, p5, p6, p7, p8⟩, _⟩ := X4.c9; obtain ⟨⟨r0, r1, r2, r3⟩, _⟩ := A4.c4)
          | (go_at_call 17; first
            | ((with_reducible refine (HY.out _).mono ?_); rintro e' w5 ⟨rfl, hb⟩; have X5 := X4.call hb; have B5 := B4.call hb; have HB5 := bl_trans HB4 hb; have hx5 := X5.lt; have hb5 := B5.lt; clear hb p0 p1 p2 p3 p4 p5 p6 p7 p8 r0 r1 r2 r3)
            | ((with_reducible refine (HZ.out _).mono ?_); rintro e' w7 ⟨rfl, hb⟩; have X7 := X6.call hb; have Y7 := Y6.call hb; have HB7 := bl_trans HB6 hb; have hx7 := X7.lt; have hy7 := Y7.lt; clear hb p0 p1 p2 p3 p4 p5 p6 p7 p8 r0 r1 r2 r3))
          | (refine wpList_stG rfl 26 (.tmp 8) (.tmp 28) rfl w5.heap.size _ #[.bool y0, .int .i64 y1, .bool y2, .int .u64 y3, .int .i64 y4, .int .i64 y5, .bool y6, .int .u64 y7, .int .i64 y8] (Blk.new w5 _ _) rfl rfl (by kernel_rfl) rfl (by simp [Value.oneCell']) ?_; intro W6 Y6 P6; have X6 := P6.blk (X5.alloc _) (by omega); have B6 := P6.blk (B5.alloc _) (by omega); have HB6 := P6.bel (bl_alloc HB5 _) (by omega); obtain ⟨⟨p0, p1, p2, p3, p4, p5, p6, p7, p8⟩, _⟩ := X6.c9; obtain ⟨⟨r0, r1, r2, r3⟩, _⟩ := B6.c4)
          | (refine wpList_stG rfl 26 (.tmp 9) (.tmp 31) rfl w7.heap.size _ #[.bool z0, .int .i64 z1, .bool z2, .int .u64 z3, .int .i64 z4, .int .i64 z5, .bool z6, .int .u64 z7, .int .i64 z8] (Blk.new w7 _ _) rfl rfl (by kernel_rfl) rfl (by simp [Value.oneCell']) ?_; intro W8 Z8 P8; have X8 := P8.blk (X7.alloc _) (by omega); have Y8 := P8.blk (Y7.alloc _) (by omega); have HB8 := P8.bel (bl_alloc HB7 _) (by omega)))
        replace X8 := X8.drew
        replace Y8 := Y8.drew
        replace Z8 := Z8.drew
        replace HB8 := bl_drew HB8
        have e3 := fun W => run_eqIv W x0 x0 x1 x1 x2 x2 x3 x3 x4 x4 x5 x5 x6 x6 x7 x7 x8 x8
        rw [decide_eq_true rfl] at e3
        refine start_ (n := 23) (S := fun w' => w'.cell? ⟨w.heap.size, 0, none⟩ = some (.bool x0) ∧ w'.cell? ⟨w.heap.size, 1, none⟩ = some (.int .i64 x1) ∧ w'.cell? ⟨w.heap.size, 2, none⟩ = some (.bool x2) ∧ w'.cell? ⟨w.heap.size, 3, none⟩ = some (.int .u64 x3) ∧ w'.cell? ⟨w.heap.size, 4, none⟩ = some (.int .i64 x4) ∧ w'.cell? ⟨w.heap.size, 5, none⟩ = some (.int .i64 x5) ∧ w'.cell? ⟨w.heap.size, 6, none⟩ = some (.bool x6) ∧ w'.cell? ⟨w.heap.size, 7, none⟩ = some (.int .u64 x7) ∧ w'.cell? ⟨w.heap.size, 8, none⟩ = some (.int .i64 x8) ∧ w'.cell? ⟨w5.heap.size, 0, none⟩ = some (.bool y0) ∧ w'.cell? ⟨w5.heap.size, 1, none⟩ = some (.int .i64 y1) ∧ w'.cell? ⟨w5.heap.size, 2, none⟩ = some (.bool y2) ∧ w'.cell? ⟨w5.heap.size, 3, none⟩ = some (.int .u64 y3) ∧ w'.cell? ⟨w5.heap.size, 4, none⟩ = some (.int .i64 y4) ∧ w'.cell? ⟨w5.heap.size, 5, none⟩ = some (.int .i64 y5) ∧ w'.cell? ⟨w5.heap.size, 6, none⟩ = some (.bool y6) ∧ w'.cell? ⟨w5.heap.size, 7, none⟩ = some (.int .u64 y7) ∧ w'.cell? ⟨w5.heap.size, 8, none⟩ = some (.int .i64 y8) ∧ w'.cell? ⟨w7.heap.size, 0, none⟩ = some (.bool z0) ∧ w'.cell? ⟨w7.heap.size, 1, none⟩ = some (.int .i64 z1) ∧ w'.cell? ⟨w7.heap.size, 2, none⟩ = some (.bool z2) ∧ w'.cell? ⟨w7.heap.size, 3, none⟩ = some (.int .u64 z3) ∧ w'.cell? ⟨w7.heap.size, 4, none⟩ = some (.int .i64 z4) ∧ w'.cell? ⟨w7.heap.size, 5, none⟩ = some (.int .i64 z5) ∧ w'.cell? ⟨w7.heap.size, 6, none⟩ = some (.bool z6) ∧ w'.cell? ⟨w7.heap.size, 7, none⟩ = some (.int .u64 z7) ∧ w'.cell? ⟨w7.heap.size, 8, none⟩ = some (.int .i64 z8)) (ds := []) #[false, false, false, false, false, false, false, false, false, false, false, false, false, false, false, false, false, false, false, false, false, false, false] (by kernel_rfl) rfl rfl ⟨X8.cell 0, X8.cell 1, X8.cell 2, X8.cell 3, X8.cell 4, X8.cell 5, X8.cell 6, X8.cell 7, X8.cell 8, Y8.cell 0, Y8.cell 1, Y8.cell 2, Y8.cell 3, Y8.cell 4, Y8.cell 5, Y8.cell 6, Y8.cell 7, Y8.cell 8, Z8.cell 0, Z8.cell 1, Z8.cell 2, Z8.cell 3, Z8.cell 4, Z8.cell 5, Z8.cell 6, Z8.cell 7, Z8.cell 8⟩ (fun hHeld => ?_)
        generalize W8.drew = W9 at X8 Y8 Z8 HB8 hHeld ⊢
        refine pure_ (i := 0) (N := some 32) (v := ?_) (a' := ?_) #[true, false, false, false, false, false, false, false, false, false, false, false, false, false, false, false, false, false, false, false, false, false, false] rfl rfl (by kernel_rfl) (fun _ _ _ h => h) (Or.inl ⟨by rfl, ?_⟩) ?_ ?_
        rotate_left
        · intro w'
          go_simp
          with_reducible rfl
        rotate_left
        · simp only [Act.put, List.setIfInBounds_toArray, List.set_cons_zero, List.set_cons_succ]
          rfl
        refine pure_ (i := 1) (N := some 33) (v := ?_) (a' := ?_) #[true, true, false, false, false, false, false, false, false, false, false, false, false, false, false, false, false, false, false, false, false, false, false] rfl rfl (by kernel_rfl) (fun _ _ _ h => h) (Or.inl ⟨by rfl, ?_⟩) ?_ ?_
        rotate_left
        · intro w'
          go_simp
          with_reducible rfl
        rotate_left
        · simp only [Act.put, List.setIfInBounds_toArray, List.set_cons_zero, List.set_cons_succ]
          rfl
        refine take_ (i := 2) (N := some 34) (v := ?_) (a' := ?_) #[true, true, true, false, false, false, false, false, false, false, false, false, false, false, false, false, false, false, false, false, false, false, false] rfl rfl (by kernel_rfl) (fun _ _ _ h => h) (Or.inl ⟨by rfl, ?_⟩) hHeld ?_ ?_
        rotate_left
        · rintro w' ⟨s0_, s1_, s2_, s3_, s4_, s5_, s6_, s7_, s8_, s9_, s10_, s11_, s12_, s13_, s14_, s15_, s16_, s17_, s18_, s19_, s20_, s21_, s22_, s23_, s24_, s25_, s26_⟩
          go_simp
          with_reducible rfl
        rotate_left
        · simp only [Act.put, List.setIfInBounds_toArray, List.set_cons_zero, List.set_cons_succ]
          rfl
        refine take_ (i := 3) (N := some 35) (v := ?_) (a' := ?_) #[true, true, true, true, false, false, false, false, false, false, false, false, false, false, false, false, false, false, false, false, false, false, false] rfl rfl (by kernel_rfl) (fun _ _ _ h => h) (Or.inl ⟨by rfl, ?_⟩) hHeld ?_ ?_
        rotate_left
        · rintro w' ⟨s0_, s1_, s2_, s3_, s4_, s5_, s6_, s7_, s8_, s9_, s10_, s11_, s12_, s13_, s14_, s15_, s16_, s17_, s18_, s19_, s20_, s21_, s22_, s23_, s24_, s25_, s26_⟩
          go_simp
          with_reducible rfl
        rotate_left
        · simp only [Act.put, List.setIfInBounds_toArray, List.set_cons_zero, List.set_cons_succ]
          rfl
        refine one_ (i := 4) (N := some 36) #[true, true, true, true, true, false, false, false, false, false, false, false, false, false, false, false, false, false, false, false, false, false, false] rfl rfl (by kernel_rfl) (by decide) (fun K hK => ?_)
        refine goes_ Try.func18 (by kernel_rfl) rfl #[.agg #[.bool x0, .int .i64 x1, .bool x2, .int .u64 x3, .int .i64 x4, .int .i64 x5, .bool x6, .int .u64 x7, .int .i64 x8], .agg #[.bool y0, .int .i64 y1, .bool y2, .int .u64 y3, .int .i64 y4, .int .i64 y5, .bool y6, .int .u64 y7, .int .i64 y8]] (by rfl) rfl rfl (by simp only [List.map_toArray, List.map_cons, List.map_nil] <;> rfl) ?_
        with_reducible refine (HW1.out _).mono ?_
        rintro e w11 ⟨rfl, hb⟩
        refine ⟨_, rfl, ?_⟩
        have X8 := X8.call hb
        have Y8 := Y8.call hb
        have Z8 := Z8.call hb
        have HB8 := bl_trans HB8 hb
        refine hK.out _ _ ⟨X8.cell 0, X8.cell 1, X8.cell 2, X8.cell 3, X8.cell 4, X8.cell 5, X8.cell 6, X8.cell 7, X8.cell 8, Y8.cell 0, Y8.cell 1, Y8.cell 2, Y8.cell 3, Y8.cell 4, Y8.cell 5, Y8.cell 6, Y8.cell 7, Y8.cell 8, Z8.cell 0, Z8.cell 1, Z8.cell 2, Z8.cell 3, Z8.cell 4, Z8.cell 5, Z8.cell 6, Z8.cell 7, Z8.cell 8⟩ (fun hHeld => ?_)
        clear hK K hb
        refine norm_ (a' := ?_) ?_ ?_
        rotate_left
        · show Act.put _ (some 36) _ = _
          simp only [Act.put, List.setIfInBounds_toArray, List.set_cons_zero, List.set_cons_succ]
          rfl
        refine pure_ (i := 5) (N := some 37) (v := ?_) (a' := ?_) #[true, true, true, true, true, true, false, false, false, false, false, false, false, false, false, false, false, false, false, false, false, false, false] rfl rfl (by kernel_rfl) (fun _ _ _ h => h) (Or.inl ⟨by rfl, ?_⟩) ?_ ?_
        rotate_left
        · intro w'
          go_simp
          with_reducible rfl
        rotate_left
        · simp only [Act.put, List.setIfInBounds_toArray, List.set_cons_zero, List.set_cons_succ]
          rfl
        refine pure_ (i := 6) (N := some 38) (v := ?_) (a' := ?_) #[true, true, true, true, true, true, true, false, false, false, false, false, false, false, false, false, false, false, false, false, false, false, false] rfl rfl (by kernel_rfl) (fun _ _ _ h => h) (Or.inl ⟨by rfl, ?_⟩) ?_ ?_
        rotate_left
        · intro w'
          go_simp
          with_reducible rfl
        rotate_left
        · simp only [Act.put, List.setIfInBounds_toArray, List.set_cons_zero, List.set_cons_succ]
          rfl
        refine take_ (i := 7) (N := some 39) (v := ?_) (a' := ?_) #[true, true, true, true, true, true, true, true, false, false, false, false, false, false, false, false, false, false, false, false, false, false, false] rfl rfl (by kernel_rfl) (fun _ _ _ h => h) (Or.inl ⟨by rfl, ?_⟩) hHeld ?_ ?_
        rotate_left
        · rintro w' ⟨s0_, s1_, s2_, s3_, s4_, s5_, s6_, s7_, s8_, s9_, s10_, s11_, s12_, s13_, s14_, s15_, s16_, s17_, s18_, s19_, s20_, s21_, s22_, s23_, s24_, s25_, s26_⟩
          go_simp
          with_reducible rfl
        rotate_left
        · simp only [Act.put, List.setIfInBounds_toArray, List.set_cons_zero, List.set_cons_succ]
          rfl
        refine take_ (i := 8) (N := some 40) (v := ?_) (a' := ?_) #[true, true, true, true, true, true, true, true, true, false, false, false, false, false, false, false, false, false, false, false, false, false, false] rfl rfl (by kernel_rfl) (fun _ _ _ h => h) (Or.inl ⟨by rfl, ?_⟩) hHeld ?_ ?_
        rotate_left
        · rintro w' ⟨s0_, s1_, s2_, s3_, s4_, s5_, s6_, s7_, s8_, s9_, s10_, s11_, s12_, s13_, s14_, s15_, s16_, s17_, s18_, s19_, s20_, s21_, s22_, s23_, s24_, s25_, s26_⟩
          go_simp
          with_reducible rfl
        rotate_left
        · simp only [Act.put, List.setIfInBounds_toArray, List.set_cons_zero, List.set_cons_succ]
          rfl
        refine one_ (i := 9) (N := some 41) #[true, true, true, true, true, true, true, true, true, true, false, false, false, false, false, false, false, false, false, false, false, false, false] rfl rfl (by kernel_rfl) (by decide) (fun K hK => ?_)
        refine goes_ Try.func18 (by kernel_rfl) rfl #[.agg #[.bool y0, .int .i64 y1, .bool y2, .int .u64 y3, .int .i64 y4, .int .i64 y5, .bool y6, .int .u64 y7, .int .i64 y8], .agg #[.bool z0, .int .i64 z1, .bool z2, .int .u64 z3, .int .i64 z4, .int .i64 z5, .bool z6, .int .u64 z7, .int .i64 z8]] (by rfl) rfl rfl (by simp only [List.map_toArray, List.map_cons, List.map_nil] <;> rfl) ?_
        with_reducible refine (HW2.out _).mono ?_
        rintro e w12 ⟨rfl, hb⟩
        refine ⟨_, rfl, ?_⟩
        have X8 := X8.call hb
        have Y8 := Y8.call hb
        have Z8 := Z8.call hb
        have HB8 := bl_trans HB8 hb
        refine hK.out _ _ ⟨X8.cell 0, X8.cell 1, X8.cell 2, X8.cell 3, X8.cell 4, X8.cell 5, X8.cell 6, X8.cell 7, X8.cell 8, Y8.cell 0, Y8.cell 1, Y8.cell 2, Y8.cell 3, Y8.cell 4, Y8.cell 5, Y8.cell 6, Y8.cell 7, Y8.cell 8, Z8.cell 0, Z8.cell 1, Z8.cell 2, Z8.cell 3, Z8.cell 4, Z8.cell 5, Z8.cell 6, Z8.cell 7, Z8.cell 8⟩ (fun hHeld => ?_)
        clear hK K hb
        refine norm_ (a' := ?_) ?_ ?_
        rotate_left
        · show Act.put _ (some 41) _ = _
          simp only [Act.put, List.setIfInBounds_toArray, List.set_cons_zero, List.set_cons_succ]
          rfl
        refine pure_ (i := 10) (N := some 42) (v := ?_) (a' := ?_) #[true, true, true, true, true, true, true, true, true, true, true, false, false, false, false, false, false, false, false, false, false, false, false] rfl rfl (by kernel_rfl) (fun _ _ _ h => h) (Or.inl ⟨by rfl, ?_⟩) ?_ ?_
        rotate_left
        · intro w'
          go_simp
          with_reducible rfl
        rotate_left
        · simp only [Act.put, List.setIfInBounds_toArray, List.set_cons_zero, List.set_cons_succ]
          rfl
        refine pure_ (i := 11) (N := some 43) (v := ?_) (a' := ?_) #[true, true, true, true, true, true, true, true, true, true, true, true, false, false, false, false, false, false, false, false, false, false, false] rfl rfl (by kernel_rfl) (fun _ _ _ h => h) (Or.inl ⟨by rfl, ?_⟩) ?_ ?_
        rotate_left
        · intro w'
          go_simp
          with_reducible rfl
        rotate_left
        · simp only [Act.put, List.setIfInBounds_toArray, List.set_cons_zero, List.set_cons_succ]
          rfl
        refine take_ (i := 12) (N := some 44) (v := ?_) (a' := ?_) #[true, true, true, true, true, true, true, true, true, true, true, true, true, false, false, false, false, false, false, false, false, false, false] rfl rfl (by kernel_rfl) (fun _ _ _ h => h) (Or.inl ⟨by rfl, ?_⟩) hHeld ?_ ?_
        rotate_left
        · rintro w' ⟨s0_, s1_, s2_, s3_, s4_, s5_, s6_, s7_, s8_, s9_, s10_, s11_, s12_, s13_, s14_, s15_, s16_, s17_, s18_, s19_, s20_, s21_, s22_, s23_, s24_, s25_, s26_⟩
          go_simp
          with_reducible rfl
        rotate_left
        · simp only [Act.put, List.setIfInBounds_toArray, List.set_cons_zero, List.set_cons_succ]
          rfl
        refine pure_ (i := 13) (N := some 45) (v := ?_) (a' := ?_) #[true, true, true, true, true, true, true, true, true, true, true, true, true, true, false, false, false, false, false, false, false, false, false] rfl rfl (by kernel_rfl) (fun _ _ _ h => h) (Or.inl ⟨by rfl, ?_⟩) ?_ ?_
        rotate_left
        · intro w'
          go_simp
          with_reducible rfl
        rotate_left
        · simp only [Act.put, List.setIfInBounds_toArray, List.set_cons_zero, List.set_cons_succ]
          rfl
        refine take_ (i := 15) (N := some 47) (v := ?_) (a' := ?_) #[true, true, true, true, true, true, true, true, true, true, true, true, true, true, false, true, false, false, false, false, false, false, false] rfl rfl (by kernel_rfl) (fun _ _ _ h => h) (Or.inl ⟨by rfl, ?_⟩) hHeld ?_ ?_
        rotate_left
        · rintro w' ⟨s0_, s1_, s2_, s3_, s4_, s5_, s6_, s7_, s8_, s9_, s10_, s11_, s12_, s13_, s14_, s15_, s16_, s17_, s18_, s19_, s20_, s21_, s22_, s23_, s24_, s25_, s26_⟩
          go_simp
          with_reducible rfl
        rotate_left
        · simp only [Act.put, List.setIfInBounds_toArray, List.set_cons_zero, List.set_cons_succ]
          rfl
        refine one_ (i := 14) (N := some 46) #[true, true, true, true, true, true, true, true, true, true, true, true, true, true, true, true, false, false, false, false, false, false, false] rfl rfl (by kernel_rfl) (by decide) (fun K hK => ?_)
        refine goes_ Try.func17 (by kernel_rfl) rfl #[.agg #[.bool x0, .int .i64 x1, .bool x2, .int .u64 x3, .int .i64 x4, .int .i64 x5, .bool x6, .int .u64 x7, .int .i64 x8], .agg #[.int .i64 0, .bool false, .int .u64 0, .int .i64 0]] (by rfl) rfl rfl (by simp only [List.map_toArray, List.map_cons, List.map_nil] <;> rfl) ?_
        with_reducible refine (H0.out _).mono ?_
        rintro e w13 ⟨rfl, hb⟩
        refine ⟨_, rfl, ?_⟩
        have X8 := X8.call hb
        have Y8 := Y8.call hb
        have Z8 := Z8.call hb
        have HB8 := bl_trans HB8 hb
        refine hK.out _ _ ⟨X8.cell 0, X8.cell 1, X8.cell 2, X8.cell 3, X8.cell 4, X8.cell 5, X8.cell 6, X8.cell 7, X8.cell 8, Y8.cell 0, Y8.cell 1, Y8.cell 2, Y8.cell 3, Y8.cell 4, Y8.cell 5, Y8.cell 6, Y8.cell 7, Y8.cell 8, Z8.cell 0, Z8.cell 1, Z8.cell 2, Z8.cell 3, Z8.cell 4, Z8.cell 5, Z8.cell 6, Z8.cell 7, Z8.cell 8⟩ (fun hHeld => ?_)
        clear hK K hb
        refine norm_ (a' := ?_) ?_ ?_
        rotate_left
        · show Act.put _ (some 46) _ = _
          simp only [Act.put, List.setIfInBounds_toArray, List.set_cons_zero, List.set_cons_succ]
          rfl
        refine pure_ (i := 16) (N := some 48) (v := ?_) (a' := ?_) #[true, true, true, true, true, true, true, true, true, true, true, true, true, true, true, true, true, false, false, false, false, false, false] rfl rfl (by kernel_rfl) (fun _ _ _ h => h) (Or.inl ⟨by rfl, ?_⟩) ?_ ?_
        rotate_left
        · intro w'
          go_simp
          with_reducible rfl
        rotate_left
        · simp only [Act.put, List.setIfInBounds_toArray, List.set_cons_zero, List.set_cons_succ]
          rfl
        refine pure_ (i := 17) (N := some 49) (v := ?_) (a' := ?_) #[true, true, true, true, true, true, true, true, true, true, true, true, true, true, true, true, true, true, false, false, false, false, false] rfl rfl (by kernel_rfl) (fun _ _ _ h => h) (Or.inl ⟨by rfl, ?_⟩) ?_ ?_
        rotate_left
        · intro w'
          go_simp
          with_reducible rfl
        rotate_left
        · simp only [Act.put, List.setIfInBounds_toArray, List.set_cons_zero, List.set_cons_succ]
          rfl
        refine pure_ (i := 18) (N := some 50) (v := ?_) (a' := ?_) #[true, true, true, true, true, true, true, true, true, true, true, true, true, true, true, true, true, true, true, false, false, false, false] rfl rfl (by kernel_rfl) (fun _ _ _ h => h) (Or.inl ⟨by rfl, ?_⟩) ?_ ?_
        rotate_left
        · intro w'
          go_simp
          with_reducible rfl
        rotate_left
        · simp only [Act.put, List.setIfInBounds_toArray, List.set_cons_zero, List.set_cons_succ]
          rfl
        refine take_ (i := 19) (N := some 51) (v := ?_) (a' := ?_) #[true, true, true, true, true, true, true, true, true, true, true, true, true, true, true, true, true, true, true, true, false, false, false] rfl rfl (by kernel_rfl) (fun _ _ _ h => h) (Or.inl ⟨by rfl, ?_⟩) hHeld ?_ ?_
        rotate_left
        · rintro w' ⟨s0_, s1_, s2_, s3_, s4_, s5_, s6_, s7_, s8_, s9_, s10_, s11_, s12_, s13_, s14_, s15_, s16_, s17_, s18_, s19_, s20_, s21_, s22_, s23_, s24_, s25_, s26_⟩
          go_simp
          with_reducible rfl
        rotate_left
        · simp only [Act.put, List.setIfInBounds_toArray, List.set_cons_zero, List.set_cons_succ]
          rfl
        refine one_ (i := 20) (N := some 52) #[true, true, true, true, true, true, true, true, true, true, true, true, true, true, true, true, true, true, true, true, true, false, false] rfl rfl (by kernel_rfl) (by decide) (fun K hK => ?_)
        refine goes_ Try.func14 (by kernel_rfl) rfl #[.agg #[.bool z0, .int .i64 z1, .bool z2, .int .u64 z3, .int .i64 z4, .int .i64 z5, .bool z6, .int .u64 z7, .int .i64 z8]] (by rfl) rfl rfl (by simp only [List.map_toArray, List.map_cons, List.map_nil] <;> rfl) ?_
        with_reducible refine (HMZ.out _).mono ?_
        rintro e w14 ⟨rfl, hb⟩
        refine ⟨_, rfl, ?_⟩
        have X8 := X8.call hb
        have Y8 := Y8.call hb
        have Z8 := Z8.call hb
        have HB8 := bl_trans HB8 hb
        refine hK.out _ _ ⟨X8.cell 0, X8.cell 1, X8.cell 2, X8.cell 3, X8.cell 4, X8.cell 5, X8.cell 6, X8.cell 7, X8.cell 8, Y8.cell 0, Y8.cell 1, Y8.cell 2, Y8.cell 3, Y8.cell 4, Y8.cell 5, Y8.cell 6, Y8.cell 7, Y8.cell 8, Z8.cell 0, Z8.cell 1, Z8.cell 2, Z8.cell 3, Z8.cell 4, Z8.cell 5, Z8.cell 6, Z8.cell 7, Z8.cell 8⟩ (fun hHeld => ?_)
        clear hK K hb
        refine norm_ (a' := ?_) ?_ ?_
        rotate_left
        · show Act.put _ (some 52) _ = _
          simp only [Act.put, List.setIfInBounds_toArray, List.set_cons_zero, List.set_cons_succ]
          rfl
        refine pure_ (i := 21) (N := some 53) (v := ?_) (a' := ?_) #[true, true, true, true, true, true, true, true, true, true, true, true, true, true, true, true, true, true, true, true, true, true, false] rfl rfl (by kernel_rfl) (fun _ _ _ h => h) (Or.inl ⟨by rfl, ?_⟩) ?_ ?_
        rotate_left
        · intro w'
          go_simp
          with_reducible rfl
        rotate_left
        · simp only [Act.put, List.setIfInBounds_toArray, List.set_cons_zero, List.set_cons_succ]
          rfl
        refine pure_ (i := 22) (N := some 6) (v := ?_) (a' := ?_) #[true, true, true, true, true, true, true, true, true, true, true, true, true, true, true, true, true, true, true, true, true, true, true] rfl rfl (by kernel_rfl) (fun _ _ _ h => h) (Or.inl ⟨by rfl, ?_⟩) ?_ ?_
        rotate_left
        · intro w'
          go_simp
          with_reducible rfl
        rotate_left
        · simp only [Act.put, List.setIfInBounds_toArray, List.set_cons_zero, List.set_cons_succ]
          rfl
        refine done_ (by kernel_rfl) ?_
        go_wp2
        go_ret
        exact ⟨rfl, HB8⟩
end Go.Proofs.Ytagojbgmgkkdpaa.Wk
