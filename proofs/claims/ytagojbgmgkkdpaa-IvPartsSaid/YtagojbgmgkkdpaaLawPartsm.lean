/- Walk: peloruslaw08.IvParts returns true, for every input. -/
import Derived.Test.YtagojbgmgkkdpaaFewAm
import Derived.Test.YtagojbgmgkkdpaaAw08
import Derived.Test.YtagojbgmgkkdpaaArZ
namespace Go.Proofs.Ytagojbgmgkkdpaa.Wk
open Go.RowKit Go.Proofs.Pl Go.Proofs.YtagojbgmgkkdpaaW.PrintLast
set_option linter.unusedSimpArgs false
set_option linter.unusedVariables false

set_option maxRecDepth 100000 in
set_option maxHeartbeats 8000000 in
theorem ivParts_calls (x0 : Bool) (x1 : Int) (x2 : Bool) (x3 x4 x5 : Int) (x6 : Bool) (x7 x8 : Int) (b0 : Int) (b1 : Bool) (b2 b3 : Int) (w : World) (wx : WfIv ⟨x0, ⟨x1, x2, x3, x4⟩, ⟨x5, x6, x7, x8⟩⟩) (wb : Wf ⟨b0, b1, b2, b3⟩) :
    Calls Try.prog 5 #[.agg #[.bool x0, .int .i64 x1, .bool x2, .int .u64 x3, .int .i64 x4, .int .i64 x5, .bool x6, .int .u64 x7, .int .i64 x8], .agg #[.int .i64 b0, .bool b1, .int .u64 b2, .int .i64 b3]] w fun e w' => e = .returned (.bool true) ∧ Below w.heap.size w w' := by
  have H1 := (fun W => few8_calls x0 x1 x2 x3 x4 x5 x6 x7 x8 W)
  have H2 := (fun W => few6_calls b0 b1 b2 b3 W)
  have X8 := (Blk.new w 26 #[.bool x0, .int .i64 x1, .bool x2, .int .u64 x3, .int .i64 x4, .int .i64 x5, .bool x6, .int .u64 x7, .int .i64 x8]).alloc (.cells #[.int .i64 b0, .bool b1, .int .u64 b2, .int .i64 b3] 24)
  have B8 := Blk.new1 w (.cells #[.bool x0, .int .i64 x1, .bool x2, .int .u64 x3, .int .i64 x4, .int .i64 x5, .bool x6, .int .u64 x7, .int .i64 x8] 26) 24 #[.int .i64 b0, .bool b1, .int .u64 b2, .int .i64 b3]
  have HB8 := bl_alloc (bl_alloc (Below.refl w.heap.size w) (.cells #[.bool x0, .int .i64 x1, .bool x2, .int .u64 x3, .int .i64 x4, .int .i64 x5, .bool x6, .int .u64 x7, .int .i64 x8] 26)) (.cells #[.int .i64 b0, .bool b1, .int .u64 b2, .int .i64 b3] 24)
  by_cases hf : fewN ⟨x1, x2, x3, x4⟩ = true ∧ fewN ⟨x5, x6, x7, x8⟩ = true ∧ fewN ⟨b0, b1, b2, b3⟩ = true
  · obtain ⟨ff1, ff2, ff3⟩ := hf
    rw [ff1, ff2, Bool.and_true] at H1
    rw [ff3] at H2
    have g1 := few_of ff1
    have g2 := few_of ff2
    have g3 := few_of ff3
    have HM := (fun W => midI_calls x0 x1 x2 x3 x4 x5 x6 x7 x8 wx W)
    have HM2 := (fun W => r8mid_calls x0 x1 x2 x3 x4 x5 x6 x7 x8 W wx g1 g2)
    have HD := (fun W => widthI_calls x0 x1 x2 x3 x4 x5 x6 x7 x8 wx W)
    have HD2 := (fun W => r8width_calls x0 x1 x2 x3 x4 x5 x6 x7 x8 W wx g1 g2)
    have HS := (fun W => splitI_calls x0 x1 x2 x3 x4 x5 x6 x7 x8 wx W)
    have HS2 := (fun W => r8split_calls x0 x1 x2 x3 x4 x5 x6 x7 x8 W wx g1 g2)
    have HI := (fun W => inflateI_calls x0 x1 x2 x3 x4 x5 x6 x7 x8 b0 b1 b2 b3 wx wb W)
    have HI2 := (fun W => r8infl_calls x0 x1 x2 x3 x4 x5 x6 x7 x8 b0 b1 b2 b3 W wx wb g1 g2 g3)
    generalize midI ⟨x0, ⟨x1, x2, x3, x4⟩, ⟨x5, x6, x7, x8⟩⟩ = m at HM HM2
    generalize widthI ⟨x0, ⟨x1, x2, x3, x4⟩, ⟨x5, x6, x7, x8⟩⟩ = d at HD HD2
    generalize splitA ⟨x0, ⟨x1, x2, x3, x4⟩, ⟨x5, x6, x7, x8⟩⟩ = y at HS HS2
    generalize splitB ⟨x0, ⟨x1, x2, x3, x4⟩, ⟨x5, x6, x7, x8⟩⟩ = z at HS HS2
    generalize inflateI ⟨x0, ⟨x1, x2, x3, x4⟩, ⟨x5, x6, x7, x8⟩⟩ ⟨b0, b1, b2, b3⟩ = f at HI HI2
    obtain ⟨m0, m1, m2, m3⟩ := m
    obtain ⟨d0, d1, d2, d3⟩ := d
    obtain ⟨y0, ⟨y1, y2, y3, y4⟩, ⟨y5, y6, y7, y8⟩⟩ := y
    obtain ⟨z0, ⟨z1, z2, z3, z4⟩, ⟨z5, z6, z7, z8⟩⟩ := z
    obtain ⟨f0, ⟨f1, f2, f3, f4⟩, ⟨f5, f6, f7, f8⟩⟩ := f
    dsimp only at HM HM2 HD HD2 HS HS2 HI HI2
    clear g1 g2 g3 ff1 ff2 ff3 wx wb
    replace H1 := Lib.hid H1
    replace H2 := Lib.hid H2
    replace HM := Lib.hid HM
    replace HM2 := Lib.hid HM2
    replace HD := Lib.hid HD
    replace HD2 := Lib.hid HD2
    replace HS := Lib.hid HS
    replace HS2 := Lib.hid HS2
    replace HI := Lib.hid HI
    replace HI2 := Lib.hid HI2
    go_enter Try.func5, Try.ntmps5
    go_wp2_with (first
      | (go_at_call 13; (refine (awake08_calls _).mono ?_); rintro e' w1 ⟨rfl, hb⟩; replace X8 := X8.call hb; replace B8 := B8.call hb; replace HB8 := bl_trans HB8 hb; clear hb; obtain ⟨⟨p0, p1, p2, p3, p4, p5, p6, p7, p8⟩, _⟩ := X8.c9; obtain ⟨⟨r0, r1, r2, r3⟩, _⟩ := B8.c4)
      | (go_at_call 26; (with_reducible refine (H1.out _).mono ?_); rintro e' w2 ⟨rfl, hb⟩; replace X8 := X8.call hb; replace B8 := B8.call hb; replace HB8 := bl_trans HB8 hb; clear p0 p1 p2 p3 p4 p5 p6 p7 p8 r0 r1 r2 r3 hb; obtain ⟨⟨p0, p1, p2, p3, p4, p5, p6, p7, p8⟩, _⟩ := X8.c9; obtain ⟨⟨r0, r1, r2, r3⟩, _⟩ := B8.c4)
      | (go_at_call 27; (with_reducible refine (H2.out _).mono ?_); rintro e' w3 ⟨rfl, hb⟩; replace X8 := X8.call hb; replace B8 := B8.call hb; replace HB8 := bl_trans HB8 hb; clear p0 p1 p2 p3 p4 p5 p6 p7 p8 r0 r1 r2 r3 hb; obtain ⟨⟨p0, p1, p2, p3, p4, p5, p6, p7, p8⟩, _⟩ := X8.c9; obtain ⟨⟨r0, r1, r2, r3⟩, _⟩ := B8.c4)
      | (go_at_call 20; (with_reducible refine (HS.out _).mono ?_); rintro e' w5 ⟨rfl, hb⟩; replace X8 := X8.call hb; replace B8 := B8.call hb; replace HB8 := bl_trans HB8 hb; have hb8 := B8.lt; have hx8 := X8.lt; clear p0 p1 p2 p3 p4 p5 p6 p7 p8 r0 r1 r2 r3 hb)
      | (refine wpList_stG rfl 26 (.tmp 8) (.tmp 31) rfl w5.heap.size _ #[.bool y0, .int .i64 y1, .bool y2, .int .u64 y3, .int .i64 y4, .int .i64 y5, .bool y6, .int .u64 y7, .int .i64 y8] ((Blk.new w5 _ _).alloc _) rfl rfl (by kernel_rfl) rfl (by simp [Value.oneCell']) ?_; intro W6 Y8 P6; replace X8 := P6.blk ((X8.alloc _).alloc _) (by omega); replace B8 := P6.blk ((B8.alloc _).alloc _) (by omega); have Z6 := P6.blk (Blk.new1 w5 _ _ _) (by omega); replace HB8 := P6.bel (bl_alloc (bl_alloc HB8 _) _) (by omega))
      | (refine wpList_stG rfl 26 (.tmp 9) (.tmp 32) rfl (w5.heap.size + 1) _ #[.bool z0, .int .i64 z1, .bool z2, .int .u64 z3, .int .i64 z4, .int .i64 z5, .bool z6, .int .u64 z7, .int .i64 z8] Z6 rfl rfl (by kernel_rfl) rfl (by simp [Value.oneCell']) ?_; intro W8 Z8 P8; replace X8 := P8.blk X8 (by omega); replace B8 := P8.blk B8 (by omega); replace Y8 := P8.blk Y8 (by omega); replace HB8 := P8.bel HB8 (by omega); clear Z6; obtain ⟨⟨p0, p1, p2, p3, p4, p5, p6, p7, p8⟩, _⟩ := X8.c9; obtain ⟨⟨r0, r1, r2, r3⟩, _⟩ := B8.c4)
      | (go_at_call 28; (with_reducible refine (HS2.out _).mono ?_); rintro e' w9 ⟨rfl, hb⟩; replace X8 := X8.call hb; replace B8 := B8.call hb; replace Y8 := Y8.call hb; replace Z8 := Z8.call hb; replace HB8 := bl_trans HB8 hb; clear hb8 hx8; have hb8 := B8.lt; have hx8 := X8.lt; have hy8 := Y8.lt; have hz8 := Z8.lt; clear p0 p1 p2 p3 p4 p5 p6 p7 p8 r0 r1 r2 r3 hb)
      | (refine wpList_stG rfl 26 (.tmp 10) (.tmp 36) rfl w9.heap.size _ #[.bool y0, .int .i64 y1, .bool y2, .int .u64 y3, .int .i64 y4, .int .i64 y5, .bool y6, .int .u64 y7, .int .i64 y8] ((Blk.new w9 _ _).alloc _) rfl rfl (by kernel_rfl) rfl (by simp [Value.oneCell']) ?_; intro W10 U8 P10; replace X8 := P10.blk ((X8.alloc _).alloc _) (by omega); replace B8 := P10.blk ((B8.alloc _).alloc _) (by omega); replace Y8 := P10.blk ((Y8.alloc _).alloc _) (by omega); replace Z8 := P10.blk ((Z8.alloc _).alloc _) (by omega); have V6 := P10.blk (Blk.new1 w9 _ _ _) (by omega); replace HB8 := P10.bel (bl_alloc (bl_alloc HB8 _) _) (by omega))
      | (refine wpList_stG rfl 26 (.tmp 11) (.tmp 37) rfl (w9.heap.size + 1) _ #[.bool z0, .int .i64 z1, .bool z2, .int .u64 z3, .int .i64 z4, .int .i64 z5, .bool z6, .int .u64 z7, .int .i64 z8] V6 rfl rfl (by kernel_rfl) rfl (by simp [Value.oneCell']) ?_; intro W12 V8 P12; replace X8 := P12.blk X8 (by omega); replace B8 := P12.blk B8 (by omega); replace Y8 := P12.blk Y8 (by omega); replace Z8 := P12.blk Z8 (by omega); replace U8 := P12.blk U8 (by omega); replace HB8 := P12.bel HB8 (by omega); clear V6))
    replace X8 := X8.drew
    replace B8 := B8.drew
    replace Y8 := Y8.drew
    replace Z8 := Z8.drew
    replace U8 := U8.drew
    replace V8 := V8.drew
    replace HB8 := bl_drew HB8
    have e1 := fun W => run_eqNum W m0 m0 m1 m1 m2 m2 m3 m3
    have e2 := fun W => run_eqNum W d0 d0 d1 d1 d2 d2 d3 d3
    have e3 := fun W => run_eqIv W y0 y0 y1 y1 y2 y2 y3 y3 y4 y4 y5 y5 y6 y6 y7 y7 y8 y8
    have e4 := fun W => run_eqIv W z0 z0 z1 z1 z2 z2 z3 z3 z4 z4 z5 z5 z6 z6 z7 z7 z8 z8
    have e5 := fun W => run_eqIv W f0 f0 f1 f1 f2 f2 f3 f3 f4 f4 f5 f5 f6 f6 f7 f7 f8 f8
    rw [decide_eq_true rfl] at e1 e2 e3 e4 e5
    refine start_ (n := 32) (S := fun w' => w'.cell? ⟨w.heap.size, 0, none⟩ = some (.bool x0) ∧ w'.cell? ⟨w.heap.size, 1, none⟩ = some (.int .i64 x1) ∧ w'.cell? ⟨w.heap.size, 2, none⟩ = some (.bool x2) ∧ w'.cell? ⟨w.heap.size, 3, none⟩ = some (.int .u64 x3) ∧ w'.cell? ⟨w.heap.size, 4, none⟩ = some (.int .i64 x4) ∧ w'.cell? ⟨w.heap.size, 5, none⟩ = some (.int .i64 x5) ∧ w'.cell? ⟨w.heap.size, 6, none⟩ = some (.bool x6) ∧ w'.cell? ⟨w.heap.size, 7, none⟩ = some (.int .u64 x7) ∧ w'.cell? ⟨w.heap.size, 8, none⟩ = some (.int .i64 x8) ∧ w'.cell? ⟨w.heap.size + 1, 0, none⟩ = some (.int .i64 b0) ∧ w'.cell? ⟨w.heap.size + 1, 1, none⟩ = some (.bool b1) ∧ w'.cell? ⟨w.heap.size + 1, 2, none⟩ = some (.int .u64 b2) ∧ w'.cell? ⟨w.heap.size + 1, 3, none⟩ = some (.int .i64 b3) ∧ w'.cell? ⟨w5.heap.size, 0, none⟩ = some (.bool y0) ∧ w'.cell? ⟨w5.heap.size, 1, none⟩ = some (.int .i64 y1) ∧ w'.cell? ⟨w5.heap.size, 2, none⟩ = some (.bool y2) ∧ w'.cell? ⟨w5.heap.size, 3, none⟩ = some (.int .u64 y3) ∧ w'.cell? ⟨w5.heap.size, 4, none⟩ = some (.int .i64 y4) ∧ w'.cell? ⟨w5.heap.size, 5, none⟩ = some (.int .i64 y5) ∧ w'.cell? ⟨w5.heap.size, 6, none⟩ = some (.bool y6) ∧ w'.cell? ⟨w5.heap.size, 7, none⟩ = some (.int .u64 y7) ∧ w'.cell? ⟨w5.heap.size, 8, none⟩ = some (.int .i64 y8) ∧ w'.cell? ⟨w5.heap.size + 1, 0, none⟩ = some (.bool z0) ∧ w'.cell? ⟨w5.heap.size + 1, 1, none⟩ = some (.int .i64 z1) ∧ w'.cell? ⟨w5.heap.size + 1, 2, none⟩ = some (.bool z2) ∧ w'.cell? ⟨w5.heap.size + 1, 3, none⟩ = some (.int .u64 z3) ∧ w'.cell? ⟨w5.heap.size + 1, 4, none⟩ = some (.int .i64 z4) ∧ w'.cell? ⟨w5.heap.size + 1, 5, none⟩ = some (.int .i64 z5) ∧ w'.cell? ⟨w5.heap.size + 1, 6, none⟩ = some (.bool z6) ∧ w'.cell? ⟨w5.heap.size + 1, 7, none⟩ = some (.int .u64 z7) ∧ w'.cell? ⟨w5.heap.size + 1, 8, none⟩ = some (.int .i64 z8) ∧ w'.cell? ⟨w9.heap.size, 0, none⟩ = some (.bool y0) ∧ w'.cell? ⟨w9.heap.size, 1, none⟩ = some (.int .i64 y1) ∧ w'.cell? ⟨w9.heap.size, 2, none⟩ = some (.bool y2) ∧ w'.cell? ⟨w9.heap.size, 3, none⟩ = some (.int .u64 y3) ∧ w'.cell? ⟨w9.heap.size, 4, none⟩ = some (.int .i64 y4) ∧ w'.cell? ⟨w9.heap.size, 5, none⟩ = some (.int .i64 y5) ∧ w'.cell? ⟨w9.heap.size, 6, none⟩ = some (.bool y6) ∧ w'.cell? ⟨w9.heap.size, 7, none⟩ = some (.int .u64 y7) ∧ w'.cell? ⟨w9.heap.size, 8, none⟩ = some (.int .i64 y8) ∧ w'.cell? ⟨w9.heap.size + 1, 0, none⟩ = some (.bool z0) ∧ w'.cell? ⟨w9.heap.size + 1, 1, none⟩ = some (.int .i64 z1) ∧ w'.cell? ⟨w9.heap.size + 1, 2, none⟩ = some (.bool z2) ∧ w'.cell? ⟨w9.heap.size + 1, 3, none⟩ = some (.int .u64 z3) ∧ w'.cell? ⟨w9.heap.size + 1, 4, none⟩ = some (.int .i64 z4) ∧ w'.cell? ⟨w9.heap.size + 1, 5, none⟩ = some (.int .i64 z5) ∧ w'.cell? ⟨w9.heap.size + 1, 6, none⟩ = some (.bool z6) ∧ w'.cell? ⟨w9.heap.size + 1, 7, none⟩ = some (.int .u64 z7) ∧ w'.cell? ⟨w9.heap.size + 1, 8, none⟩ = some (.int .i64 z8)) (ds := []) (bq 32 0) (by kernel_rfl) rfl rfl ⟨X8.cell 0, X8.cell 1, X8.cell 2, X8.cell 3, X8.cell 4, X8.cell 5, X8.cell 6, X8.cell 7, X8.cell 8, B8.cell 0, B8.cell 1, B8.cell 2, B8.cell 3, Y8.cell 0, Y8.cell 1, Y8.cell 2, Y8.cell 3, Y8.cell 4, Y8.cell 5, Y8.cell 6, Y8.cell 7, Y8.cell 8, Z8.cell 0, Z8.cell 1, Z8.cell 2, Z8.cell 3, Z8.cell 4, Z8.cell 5, Z8.cell 6, Z8.cell 7, Z8.cell 8, U8.cell 0, U8.cell 1, U8.cell 2, U8.cell 3, U8.cell 4, U8.cell 5, U8.cell 6, U8.cell 7, U8.cell 8, V8.cell 0, V8.cell 1, V8.cell 2, V8.cell 3, V8.cell 4, V8.cell 5, V8.cell 6, V8.cell 7, V8.cell 8⟩ (fun hHeld => ?_)
    generalize W12.drew = W13 at X8 B8 Y8 Z8 U8 V8 HB8 hHeld ⊢
    refine take_ (i := 0) (N := some 38) (v := ?_) (a' := ?_) (bq 32 1) rfl rfl (by as_aux_lemma => kernel_rfl) (fun _ _ _ h => h) (Or.inl ⟨by rfl, ?_⟩) hHeld ?_ ?_
    rotate_left
    · rintro w' ⟨s0_, s1_, s2_, s3_, s4_, s5_, s6_, s7_, s8_, s9_, s10_, s11_, s12_, s13_, s14_, s15_, s16_, s17_, s18_, s19_, s20_, s21_, s22_, s23_, s24_, s25_, s26_, s27_, s28_, s29_, s30_, s31_, s32_, s33_, s34_, s35_, s36_, s37_, s38_, s39_, s40_, s41_, s42_, s43_, s44_, s45_, s46_, s47_, s48_⟩
      go_simp
      with_reducible rfl
    rotate_left
    · simp only [Act.put, pA, pB, pC]
      rfl
    refine take_ (i := 2) (N := some 40) (v := ?_) (a' := ?_) (bq 32 5) rfl rfl (by as_aux_lemma => kernel_rfl) (fun _ _ _ h => h) (Or.inl ⟨by rfl, ?_⟩) hHeld ?_ ?_
    rotate_left
    · rintro w' ⟨s0_, s1_, s2_, s3_, s4_, s5_, s6_, s7_, s8_, s9_, s10_, s11_, s12_, s13_, s14_, s15_, s16_, s17_, s18_, s19_, s20_, s21_, s22_, s23_, s24_, s25_, s26_, s27_, s28_, s29_, s30_, s31_, s32_, s33_, s34_, s35_, s36_, s37_, s38_, s39_, s40_, s41_, s42_, s43_, s44_, s45_, s46_, s47_, s48_⟩
      go_simp
      with_reducible rfl
    rotate_left
    · simp only [Act.put, pA, pB, pC]
      rfl
    refine one_ (i := 1) (N := some 39) (bq 32 7) rfl rfl (by as_aux_lemma => kernel_rfl) (by decide) (fun K hK => ?_)
    refine goes_ Try.func19 (by kernel_rfl) rfl #[.agg #[.bool x0, .int .i64 x1, .bool x2, .int .u64 x3, .int .i64 x4, .int .i64 x5, .bool x6, .int .u64 x7, .int .i64 x8]] (by first | rfl | go_simp) rfl rfl (by simp only [List.map_toArray, List.map_cons, List.map_nil] <;> rfl) ?_
    with_reducible refine (HM.out _).mono ?_
    rintro e w21 ⟨rfl, hb⟩
    refine ⟨_, rfl, ?_⟩
    replace X8 := X8.call hb
    replace B8 := B8.call hb
    replace Y8 := Y8.call hb
    replace Z8 := Z8.call hb
    replace U8 := U8.call hb
    replace V8 := V8.call hb
    replace HB8 := bl_trans HB8 hb
    refine hK.out _ _ ⟨X8.cell 0, X8.cell 1, X8.cell 2, X8.cell 3, X8.cell 4, X8.cell 5, X8.cell 6, X8.cell 7, X8.cell 8, B8.cell 0, B8.cell 1, B8.cell 2, B8.cell 3, Y8.cell 0, Y8.cell 1, Y8.cell 2, Y8.cell 3, Y8.cell 4, Y8.cell 5, Y8.cell 6, Y8.cell 7, Y8.cell 8, Z8.cell 0, Z8.cell 1, Z8.cell 2, Z8.cell 3, Z8.cell 4, Z8.cell 5, Z8.cell 6, Z8.cell 7, Z8.cell 8, U8.cell 0, U8.cell 1, U8.cell 2, U8.cell 3, U8.cell 4, U8.cell 5, U8.cell 6, U8.cell 7, U8.cell 8, V8.cell 0, V8.cell 1, V8.cell 2, V8.cell 3, V8.cell 4, V8.cell 5, V8.cell 6, V8.cell 7, V8.cell 8⟩ (fun hHeld => ?_)
    clear hK K hb
    refine norm_ (a' := ?_) ?_ ?_
    rotate_left
    · show Act.put _ (some 39) _ = _
      simp only [Act.put, pA, pB, pC]
      rfl
    refine one_ (i := 3) (N := some 41) (bq 32 15) rfl rfl (by as_aux_lemma => kernel_rfl) (by decide) (fun K hK => ?_)
    refine goes_ Try.func29 (by kernel_rfl) rfl #[.agg #[.bool x0, .int .i64 x1, .bool x2, .int .u64 x3, .int .i64 x4, .int .i64 x5, .bool x6, .int .u64 x7, .int .i64 x8]] (by first | rfl | go_simp) rfl rfl (by simp only [List.map_toArray, List.map_cons, List.map_nil] <;> rfl) ?_
    with_reducible refine (HM2.out _).mono ?_
    rintro e w22 ⟨rfl, hb⟩
    refine ⟨_, rfl, ?_⟩
    replace X8 := X8.call hb
    replace B8 := B8.call hb
    replace Y8 := Y8.call hb
    replace Z8 := Z8.call hb
    replace U8 := U8.call hb
    replace V8 := V8.call hb
    replace HB8 := bl_trans HB8 hb
    refine hK.out _ _ ⟨X8.cell 0, X8.cell 1, X8.cell 2, X8.cell 3, X8.cell 4, X8.cell 5, X8.cell 6, X8.cell 7, X8.cell 8, B8.cell 0, B8.cell 1, B8.cell 2, B8.cell 3, Y8.cell 0, Y8.cell 1, Y8.cell 2, Y8.cell 3, Y8.cell 4, Y8.cell 5, Y8.cell 6, Y8.cell 7, Y8.cell 8, Z8.cell 0, Z8.cell 1, Z8.cell 2, Z8.cell 3, Z8.cell 4, Z8.cell 5, Z8.cell 6, Z8.cell 7, Z8.cell 8, U8.cell 0, U8.cell 1, U8.cell 2, U8.cell 3, U8.cell 4, U8.cell 5, U8.cell 6, U8.cell 7, U8.cell 8, V8.cell 0, V8.cell 1, V8.cell 2, V8.cell 3, V8.cell 4, V8.cell 5, V8.cell 6, V8.cell 7, V8.cell 8⟩ (fun hHeld => ?_)
    clear hK K hb
    refine norm_ (a' := ?_) ?_ ?_
    rotate_left
    · show Act.put _ (some 41) _ = _
      simp only [Act.put, pA, pB, pC]
      rfl
    refine pure_ (i := 4) (N := some 42) (v := ?_) (a' := ?_) (bq 32 31) rfl rfl (by as_aux_lemma => kernel_rfl) (fun _ _ _ h => h) (Or.inl ⟨by rfl, ?_⟩) ?_ ?_
    rotate_left
    · intro w'
      go_simp
      with_reducible rfl
    rotate_left
    · simp only [Act.put, pA, pB, pC]
      rfl
    refine pure_ (i := 5) (N := some 43) (v := ?_) (a' := ?_) (bq 32 63) rfl rfl (by as_aux_lemma => kernel_rfl) (fun _ _ _ h => h) (Or.inl ⟨by rfl, ?_⟩) ?_ ?_
    rotate_left
    · intro w'
      go_simp
      with_reducible rfl
    rotate_left
    · simp only [Act.put, pA, pB, pC]
      rfl
    refine take_ (i := 6) (N := some 44) (v := ?_) (a' := ?_) (bq 32 127) rfl rfl (by as_aux_lemma => kernel_rfl) (fun _ _ _ h => h) (Or.inl ⟨by rfl, ?_⟩) hHeld ?_ ?_
    rotate_left
    · rintro w' ⟨s0_, s1_, s2_, s3_, s4_, s5_, s6_, s7_, s8_, s9_, s10_, s11_, s12_, s13_, s14_, s15_, s16_, s17_, s18_, s19_, s20_, s21_, s22_, s23_, s24_, s25_, s26_, s27_, s28_, s29_, s30_, s31_, s32_, s33_, s34_, s35_, s36_, s37_, s38_, s39_, s40_, s41_, s42_, s43_, s44_, s45_, s46_, s47_, s48_⟩
      go_simp
      with_reducible rfl
    rotate_left
    · simp only [Act.put, pA, pB, pC]
      rfl
    refine take_ (i := 8) (N := some 46) (v := ?_) (a' := ?_) (bq 32 383) rfl rfl (by as_aux_lemma => kernel_rfl) (fun _ _ _ h => h) (Or.inl ⟨by rfl, ?_⟩) hHeld ?_ ?_
    rotate_left
    · rintro w' ⟨s0_, s1_, s2_, s3_, s4_, s5_, s6_, s7_, s8_, s9_, s10_, s11_, s12_, s13_, s14_, s15_, s16_, s17_, s18_, s19_, s20_, s21_, s22_, s23_, s24_, s25_, s26_, s27_, s28_, s29_, s30_, s31_, s32_, s33_, s34_, s35_, s36_, s37_, s38_, s39_, s40_, s41_, s42_, s43_, s44_, s45_, s46_, s47_, s48_⟩
      go_simp
      with_reducible rfl
    rotate_left
    · simp only [Act.put, pA, pB, pC]
      rfl
    refine one_ (i := 7) (N := some 45) (bq 32 511) rfl rfl (by as_aux_lemma => kernel_rfl) (by decide) (fun K hK => ?_)
    refine goes_ Try.func25 (by kernel_rfl) rfl #[.agg #[.bool x0, .int .i64 x1, .bool x2, .int .u64 x3, .int .i64 x4, .int .i64 x5, .bool x6, .int .u64 x7, .int .i64 x8]] (by first | rfl | go_simp) rfl rfl (by simp only [List.map_toArray, List.map_cons, List.map_nil] <;> rfl) ?_
    with_reducible refine (HD.out _).mono ?_
    rintro e w23 ⟨rfl, hb⟩
    refine ⟨_, rfl, ?_⟩
    replace X8 := X8.call hb
    replace B8 := B8.call hb
    replace Y8 := Y8.call hb
    replace Z8 := Z8.call hb
    replace U8 := U8.call hb
    replace V8 := V8.call hb
    replace HB8 := bl_trans HB8 hb
    refine hK.out _ _ ⟨X8.cell 0, X8.cell 1, X8.cell 2, X8.cell 3, X8.cell 4, X8.cell 5, X8.cell 6, X8.cell 7, X8.cell 8, B8.cell 0, B8.cell 1, B8.cell 2, B8.cell 3, Y8.cell 0, Y8.cell 1, Y8.cell 2, Y8.cell 3, Y8.cell 4, Y8.cell 5, Y8.cell 6, Y8.cell 7, Y8.cell 8, Z8.cell 0, Z8.cell 1, Z8.cell 2, Z8.cell 3, Z8.cell 4, Z8.cell 5, Z8.cell 6, Z8.cell 7, Z8.cell 8, U8.cell 0, U8.cell 1, U8.cell 2, U8.cell 3, U8.cell 4, U8.cell 5, U8.cell 6, U8.cell 7, U8.cell 8, V8.cell 0, V8.cell 1, V8.cell 2, V8.cell 3, V8.cell 4, V8.cell 5, V8.cell 6, V8.cell 7, V8.cell 8⟩ (fun hHeld => ?_)
    clear hK K hb
    refine norm_ (a' := ?_) ?_ ?_
    rotate_left
    · show Act.put _ (some 45) _ = _
      simp only [Act.put, pA, pB, pC]
      rfl
    refine one_ (i := 9) (N := some 47) (bq 32 1023) rfl rfl (by as_aux_lemma => kernel_rfl) (by decide) (fun K hK => ?_)
    refine goes_ Try.func30 (by kernel_rfl) rfl #[.agg #[.bool x0, .int .i64 x1, .bool x2, .int .u64 x3, .int .i64 x4, .int .i64 x5, .bool x6, .int .u64 x7, .int .i64 x8]] (by first | rfl | go_simp) rfl rfl (by simp only [List.map_toArray, List.map_cons, List.map_nil] <;> rfl) ?_
    with_reducible refine (HD2.out _).mono ?_
    rintro e w24 ⟨rfl, hb⟩
    refine ⟨_, rfl, ?_⟩
    replace X8 := X8.call hb
    replace B8 := B8.call hb
    replace Y8 := Y8.call hb
    replace Z8 := Z8.call hb
    replace U8 := U8.call hb
    replace V8 := V8.call hb
    replace HB8 := bl_trans HB8 hb
    refine hK.out _ _ ⟨X8.cell 0, X8.cell 1, X8.cell 2, X8.cell 3, X8.cell 4, X8.cell 5, X8.cell 6, X8.cell 7, X8.cell 8, B8.cell 0, B8.cell 1, B8.cell 2, B8.cell 3, Y8.cell 0, Y8.cell 1, Y8.cell 2, Y8.cell 3, Y8.cell 4, Y8.cell 5, Y8.cell 6, Y8.cell 7, Y8.cell 8, Z8.cell 0, Z8.cell 1, Z8.cell 2, Z8.cell 3, Z8.cell 4, Z8.cell 5, Z8.cell 6, Z8.cell 7, Z8.cell 8, U8.cell 0, U8.cell 1, U8.cell 2, U8.cell 3, U8.cell 4, U8.cell 5, U8.cell 6, U8.cell 7, U8.cell 8, V8.cell 0, V8.cell 1, V8.cell 2, V8.cell 3, V8.cell 4, V8.cell 5, V8.cell 6, V8.cell 7, V8.cell 8⟩ (fun hHeld => ?_)
    clear hK K hb
    refine norm_ (a' := ?_) ?_ ?_
    rotate_left
    · show Act.put _ (some 47) _ = _
      simp only [Act.put, pA, pB, pC]
      rfl
    refine pure_ (i := 10) (N := some 48) (v := ?_) (a' := ?_) (bq 32 2047) rfl rfl (by as_aux_lemma => kernel_rfl) (fun _ _ _ h => h) (Or.inl ⟨by rfl, ?_⟩) ?_ ?_
    rotate_left
    · intro w'
      go_simp
      with_reducible rfl
    rotate_left
    · simp only [Act.put, pA, pB, pC]
      rfl
    refine pure_ (i := 11) (N := some 49) (v := ?_) (a' := ?_) (bq 32 4095) rfl rfl (by as_aux_lemma => kernel_rfl) (fun _ _ _ h => h) (Or.inl ⟨by rfl, ?_⟩) ?_ ?_
    rotate_left
    · intro w'
      go_simp
      with_reducible rfl
    rotate_left
    · simp only [Act.put, pA, pB, pC]
      rfl
    refine pure_ (i := 12) (N := some 50) (v := ?_) (a' := ?_) (bq 32 8191) rfl rfl (by as_aux_lemma => kernel_rfl) (fun _ _ _ h => h) (Or.inl ⟨by rfl, ?_⟩) ?_ ?_
    rotate_left
    · intro w'
      go_simp
      with_reducible rfl
    rotate_left
    · simp only [Act.put, pA, pB, pC]
      rfl
    refine take_ (i := 13) (N := some 51) (v := ?_) (a' := ?_) (bq 32 16383) rfl rfl (by as_aux_lemma => kernel_rfl) (fun _ _ _ h => h) (Or.inl ⟨by rfl, ?_⟩) hHeld ?_ ?_
    rotate_left
    · rintro w' ⟨s0_, s1_, s2_, s3_, s4_, s5_, s6_, s7_, s8_, s9_, s10_, s11_, s12_, s13_, s14_, s15_, s16_, s17_, s18_, s19_, s20_, s21_, s22_, s23_, s24_, s25_, s26_, s27_, s28_, s29_, s30_, s31_, s32_, s33_, s34_, s35_, s36_, s37_, s38_, s39_, s40_, s41_, s42_, s43_, s44_, s45_, s46_, s47_, s48_⟩
      go_simp
      with_reducible rfl
    rotate_left
    · simp only [Act.put, pA, pB, pC]
      rfl
    refine take_ (i := 14) (N := some 52) (v := ?_) (a' := ?_) (bq 32 32767) rfl rfl (by as_aux_lemma => kernel_rfl) (fun _ _ _ h => h) (Or.inl ⟨by rfl, ?_⟩) hHeld ?_ ?_
    rotate_left
    · rintro w' ⟨s0_, s1_, s2_, s3_, s4_, s5_, s6_, s7_, s8_, s9_, s10_, s11_, s12_, s13_, s14_, s15_, s16_, s17_, s18_, s19_, s20_, s21_, s22_, s23_, s24_, s25_, s26_, s27_, s28_, s29_, s30_, s31_, s32_, s33_, s34_, s35_, s36_, s37_, s38_, s39_, s40_, s41_, s42_, s43_, s44_, s45_, s46_, s47_, s48_⟩
      go_simp
      with_reducible rfl
    rotate_left
    · simp only [Act.put, pA, pB, pC]
      rfl
    refine pure_ (i := 15) (N := some 53) (v := ?_) (a' := ?_) (bq 32 65535) rfl rfl (by as_aux_lemma => kernel_rfl) (fun _ _ _ h => h) (Or.inl ⟨by rfl, ?_⟩) ?_ ?_
    rotate_left
    · intro w'
      go_simp
      with_reducible rfl
    rotate_left
    · simp only [Act.put, pA, pB, pC]
      rfl
    refine pure_ (i := 16) (N := some 54) (v := ?_) (a' := ?_) (bq 32 131071) rfl rfl (by as_aux_lemma => kernel_rfl) (fun _ _ _ h => h) (Or.inl ⟨by rfl, ?_⟩) ?_ ?_
    rotate_left
    · intro w'
      go_simp
      with_reducible rfl
    rotate_left
    · simp only [Act.put, pA, pB, pC]
      rfl
    refine pure_ (i := 17) (N := some 55) (v := ?_) (a' := ?_) (bq 32 262143) rfl rfl (by as_aux_lemma => kernel_rfl) (fun _ _ _ h => h) (Or.inl ⟨by rfl, ?_⟩) ?_ ?_
    rotate_left
    · intro w'
      go_simp
      with_reducible rfl
    rotate_left
    · simp only [Act.put, pA, pB, pC]
      rfl
    refine take_ (i := 18) (N := some 56) (v := ?_) (a' := ?_) (bq 32 524287) rfl rfl (by as_aux_lemma => kernel_rfl) (fun _ _ _ h => h) (Or.inl ⟨by rfl, ?_⟩) hHeld ?_ ?_
    rotate_left
    · rintro w' ⟨s0_, s1_, s2_, s3_, s4_, s5_, s6_, s7_, s8_, s9_, s10_, s11_, s12_, s13_, s14_, s15_, s16_, s17_, s18_, s19_, s20_, s21_, s22_, s23_, s24_, s25_, s26_, s27_, s28_, s29_, s30_, s31_, s32_, s33_, s34_, s35_, s36_, s37_, s38_, s39_, s40_, s41_, s42_, s43_, s44_, s45_, s46_, s47_, s48_⟩
      go_simp
      with_reducible rfl
    rotate_left
    · simp only [Act.put, pA, pB, pC]
      rfl
    refine take_ (i := 19) (N := some 57) (v := ?_) (a' := ?_) (bq 32 1048575) rfl rfl (by as_aux_lemma => kernel_rfl) (fun _ _ _ h => h) (Or.inl ⟨by rfl, ?_⟩) hHeld ?_ ?_
    rotate_left
    · rintro w' ⟨s0_, s1_, s2_, s3_, s4_, s5_, s6_, s7_, s8_, s9_, s10_, s11_, s12_, s13_, s14_, s15_, s16_, s17_, s18_, s19_, s20_, s21_, s22_, s23_, s24_, s25_, s26_, s27_, s28_, s29_, s30_, s31_, s32_, s33_, s34_, s35_, s36_, s37_, s38_, s39_, s40_, s41_, s42_, s43_, s44_, s45_, s46_, s47_, s48_⟩
      go_simp
      with_reducible rfl
    rotate_left
    · simp only [Act.put, pA, pB, pC]
      rfl
    refine pure_ (i := 20) (N := some 58) (v := ?_) (a' := ?_) (bq 32 2097151) rfl rfl (by as_aux_lemma => kernel_rfl) (fun _ _ _ h => h) (Or.inl ⟨by rfl, ?_⟩) ?_ ?_
    rotate_left
    · intro w'
      go_simp
      with_reducible rfl
    rotate_left
    · simp only [Act.put, pA, pB, pC]
      rfl
    refine pure_ (i := 21) (N := some 59) (v := ?_) (a' := ?_) (bq 32 4194303) rfl rfl (by as_aux_lemma => kernel_rfl) (fun _ _ _ h => h) (Or.inl ⟨by rfl, ?_⟩) ?_ ?_
    rotate_left
    · intro w'
      go_simp
      with_reducible rfl
    rotate_left
    · simp only [Act.put, pA, pB, pC]
      rfl
    refine pure_ (i := 22) (N := some 60) (v := ?_) (a' := ?_) (bq 32 8388607) rfl rfl (by as_aux_lemma => kernel_rfl) (fun _ _ _ h => h) (Or.inl ⟨by rfl, ?_⟩) ?_ ?_
    rotate_left
    · intro w'
      go_simp
      with_reducible rfl
    rotate_left
    · simp only [Act.put, pA, pB, pC]
      rfl
    refine take_ (i := 23) (N := some 61) (v := ?_) (a' := ?_) (bq 32 16777215) rfl rfl (by as_aux_lemma => kernel_rfl) (fun _ _ _ h => h) (Or.inl ⟨by rfl, ?_⟩) hHeld ?_ ?_
    rotate_left
    · rintro w' ⟨s0_, s1_, s2_, s3_, s4_, s5_, s6_, s7_, s8_, s9_, s10_, s11_, s12_, s13_, s14_, s15_, s16_, s17_, s18_, s19_, s20_, s21_, s22_, s23_, s24_, s25_, s26_, s27_, s28_, s29_, s30_, s31_, s32_, s33_, s34_, s35_, s36_, s37_, s38_, s39_, s40_, s41_, s42_, s43_, s44_, s45_, s46_, s47_, s48_⟩
      go_simp
      with_reducible rfl
    rotate_left
    · simp only [Act.put, pA, pB, pC]
      rfl
    refine take_ (i := 24) (N := some 62) (v := ?_) (a' := ?_) (bq 32 33554431) rfl rfl (by as_aux_lemma => kernel_rfl) (fun _ _ _ h => h) (Or.inl ⟨by rfl, ?_⟩) hHeld ?_ ?_
    rotate_left
    · rintro w' ⟨s0_, s1_, s2_, s3_, s4_, s5_, s6_, s7_, s8_, s9_, s10_, s11_, s12_, s13_, s14_, s15_, s16_, s17_, s18_, s19_, s20_, s21_, s22_, s23_, s24_, s25_, s26_, s27_, s28_, s29_, s30_, s31_, s32_, s33_, s34_, s35_, s36_, s37_, s38_, s39_, s40_, s41_, s42_, s43_, s44_, s45_, s46_, s47_, s48_⟩
      go_simp
      with_reducible rfl
    rotate_left
    · simp only [Act.put, pA, pB, pC]
      rfl
    refine take_ (i := 26) (N := some 64) (v := ?_) (a' := ?_) (bq 32 100663295) rfl rfl (by as_aux_lemma => kernel_rfl) (fun _ _ _ h => h) (Or.inl ⟨by rfl, ?_⟩) hHeld ?_ ?_
    rotate_left
    · rintro w' ⟨s0_, s1_, s2_, s3_, s4_, s5_, s6_, s7_, s8_, s9_, s10_, s11_, s12_, s13_, s14_, s15_, s16_, s17_, s18_, s19_, s20_, s21_, s22_, s23_, s24_, s25_, s26_, s27_, s28_, s29_, s30_, s31_, s32_, s33_, s34_, s35_, s36_, s37_, s38_, s39_, s40_, s41_, s42_, s43_, s44_, s45_, s46_, s47_, s48_⟩
      go_simp
      with_reducible rfl
    rotate_left
    · simp only [Act.put, pA, pB, pC]
      rfl
    refine take_ (i := 27) (N := some 65) (v := ?_) (a' := ?_) (bq 32 234881023) rfl rfl (by as_aux_lemma => kernel_rfl) (fun _ _ _ h => h) (Or.inl ⟨by rfl, ?_⟩) hHeld ?_ ?_
    rotate_left
    · rintro w' ⟨s0_, s1_, s2_, s3_, s4_, s5_, s6_, s7_, s8_, s9_, s10_, s11_, s12_, s13_, s14_, s15_, s16_, s17_, s18_, s19_, s20_, s21_, s22_, s23_, s24_, s25_, s26_, s27_, s28_, s29_, s30_, s31_, s32_, s33_, s34_, s35_, s36_, s37_, s38_, s39_, s40_, s41_, s42_, s43_, s44_, s45_, s46_, s47_, s48_⟩
      go_simp
      with_reducible rfl
    rotate_left
    · simp only [Act.put, pA, pB, pC]
      rfl
    refine one_ (i := 25) (N := some 63) (bq 32 268435455) rfl rfl (by as_aux_lemma => kernel_rfl) (by decide) (fun K hK => ?_)
    refine goes_ Try.func17 (by kernel_rfl) rfl #[.agg #[.bool x0, .int .i64 x1, .bool x2, .int .u64 x3, .int .i64 x4, .int .i64 x5, .bool x6, .int .u64 x7, .int .i64 x8], .agg #[.int .i64 b0, .bool b1, .int .u64 b2, .int .i64 b3]] (by first | rfl | go_simp) rfl rfl (by simp only [List.map_toArray, List.map_cons, List.map_nil] <;> rfl) ?_
    with_reducible refine (HI.out _).mono ?_
    rintro e w25 ⟨rfl, hb⟩
    refine ⟨_, rfl, ?_⟩
    replace X8 := X8.call hb
    replace B8 := B8.call hb
    replace Y8 := Y8.call hb
    replace Z8 := Z8.call hb
    replace U8 := U8.call hb
    replace V8 := V8.call hb
    replace HB8 := bl_trans HB8 hb
    refine hK.out _ _ ⟨X8.cell 0, X8.cell 1, X8.cell 2, X8.cell 3, X8.cell 4, X8.cell 5, X8.cell 6, X8.cell 7, X8.cell 8, B8.cell 0, B8.cell 1, B8.cell 2, B8.cell 3, Y8.cell 0, Y8.cell 1, Y8.cell 2, Y8.cell 3, Y8.cell 4, Y8.cell 5, Y8.cell 6, Y8.cell 7, Y8.cell 8, Z8.cell 0, Z8.cell 1, Z8.cell 2, Z8.cell 3, Z8.cell 4, Z8.cell 5, Z8.cell 6, Z8.cell 7, Z8.cell 8, U8.cell 0, U8.cell 1, U8.cell 2, U8.cell 3, U8.cell 4, U8.cell 5, U8.cell 6, U8.cell 7, U8.cell 8, V8.cell 0, V8.cell 1, V8.cell 2, V8.cell 3, V8.cell 4, V8.cell 5, V8.cell 6, V8.cell 7, V8.cell 8⟩ (fun hHeld => ?_)
    clear hK K hb
    refine norm_ (a' := ?_) ?_ ?_
    rotate_left
    · show Act.put _ (some 63) _ = _
      simp only [Act.put, pA, pB, pC]
      rfl
    refine one_ (i := 28) (N := some 66) (bq 32 536870911) rfl rfl (by as_aux_lemma => kernel_rfl) (by decide) (fun K hK => ?_)
    refine goes_ Try.func31 (by kernel_rfl) rfl #[.agg #[.bool x0, .int .i64 x1, .bool x2, .int .u64 x3, .int .i64 x4, .int .i64 x5, .bool x6, .int .u64 x7, .int .i64 x8], .agg #[.int .i64 b0, .bool b1, .int .u64 b2, .int .i64 b3]] (by first | rfl | go_simp) rfl rfl (by simp only [List.map_toArray, List.map_cons, List.map_nil] <;> rfl) ?_
    with_reducible refine (HI2.out _).mono ?_
    rintro e w26 ⟨rfl, hb⟩
    refine ⟨_, rfl, ?_⟩
    replace X8 := X8.call hb
    replace B8 := B8.call hb
    replace Y8 := Y8.call hb
    replace Z8 := Z8.call hb
    replace U8 := U8.call hb
    replace V8 := V8.call hb
    replace HB8 := bl_trans HB8 hb
    refine hK.out _ _ ⟨X8.cell 0, X8.cell 1, X8.cell 2, X8.cell 3, X8.cell 4, X8.cell 5, X8.cell 6, X8.cell 7, X8.cell 8, B8.cell 0, B8.cell 1, B8.cell 2, B8.cell 3, Y8.cell 0, Y8.cell 1, Y8.cell 2, Y8.cell 3, Y8.cell 4, Y8.cell 5, Y8.cell 6, Y8.cell 7, Y8.cell 8, Z8.cell 0, Z8.cell 1, Z8.cell 2, Z8.cell 3, Z8.cell 4, Z8.cell 5, Z8.cell 6, Z8.cell 7, Z8.cell 8, U8.cell 0, U8.cell 1, U8.cell 2, U8.cell 3, U8.cell 4, U8.cell 5, U8.cell 6, U8.cell 7, U8.cell 8, V8.cell 0, V8.cell 1, V8.cell 2, V8.cell 3, V8.cell 4, V8.cell 5, V8.cell 6, V8.cell 7, V8.cell 8⟩ (fun hHeld => ?_)
    clear hK K hb
    refine norm_ (a' := ?_) ?_ ?_
    rotate_left
    · show Act.put _ (some 66) _ = _
      simp only [Act.put, pA, pB, pC]
      rfl
    refine pure_ (i := 29) (N := some 67) (v := ?_) (a' := ?_) (bq 32 1073741823) rfl rfl (by as_aux_lemma => kernel_rfl) (fun _ _ _ h => h) (Or.inl ⟨by rfl, ?_⟩) ?_ ?_
    rotate_left
    · intro w'
      go_simp
      with_reducible rfl
    rotate_left
    · simp only [Act.put, pA, pB, pC]
      rfl
    refine pure_ (i := 30) (N := some 68) (v := ?_) (a' := ?_) (bq 32 2147483647) rfl rfl (by as_aux_lemma => kernel_rfl) (fun _ _ _ h => h) (Or.inl ⟨by rfl, ?_⟩) ?_ ?_
    rotate_left
    · intro w'
      go_simp
      with_reducible rfl
    rotate_left
    · simp only [Act.put, pA, pB, pC]
      rfl
    refine pure_ (i := 31) (N := some 4) (v := ?_) (a' := ?_) (bq 32 4294967295) rfl rfl (by as_aux_lemma => kernel_rfl) (fun _ _ _ h => h) (Or.inl ⟨by rfl, ?_⟩) ?_ ?_
    rotate_left
    · intro w'
      go_simp
      with_reducible rfl
    rotate_left
    · simp only [Act.put, pA, pB, pC]
      rfl
    refine done_ (by as_aux_lemma => kernel_rfl) ?_
    go_wp2
    go_ret
    exact ⟨rfl, HB8⟩
  · have hv : (fewN ⟨x1, x2, x3, x4⟩ && fewN ⟨x5, x6, x7, x8⟩) = false ∨ ((fewN ⟨x1, x2, x3, x4⟩ && fewN ⟨x5, x6, x7, x8⟩) = true ∧ fewN ⟨b0, b1, b2, b3⟩ = false) := by
      revert hf
      cases fewN ⟨x1, x2, x3, x4⟩ <;> cases fewN ⟨x5, x6, x7, x8⟩ <;> cases fewN ⟨b0, b1, b2, b3⟩ <;> simp
    clear hf wx wb
    rcases hv with hv | ⟨hv, hv2⟩
    · rw [hv] at H1
      replace H1 := Lib.hid H1
      generalize fewN ⟨b0, b1, b2, b3⟩ = q at H2
      replace H2 := Lib.hid H2
      clear hv
      go_enter Try.func5, Try.ntmps5
      go_wp2_with (first
        | (go_at_call 13; (refine (awake08_calls _).mono ?_); rintro e' w1 ⟨rfl, hb⟩; replace X8 := X8.call hb; replace B8 := B8.call hb; replace HB8 := bl_trans HB8 hb; clear hb; obtain ⟨⟨p0, p1, p2, p3, p4, p5, p6, p7, p8⟩, _⟩ := X8.c9; obtain ⟨⟨r0, r1, r2, r3⟩, _⟩ := B8.c4)
        | (go_at_call 26; (with_reducible refine (H1.out _).mono ?_); rintro e' w2 ⟨rfl, hb⟩; replace X8 := X8.call hb; replace B8 := B8.call hb; replace HB8 := bl_trans HB8 hb; clear p0 p1 p2 p3 p4 p5 p6 p7 p8 r0 r1 r2 r3 hb; obtain ⟨⟨p0, p1, p2, p3, p4, p5, p6, p7, p8⟩, _⟩ := X8.c9; obtain ⟨⟨r0, r1, r2, r3⟩, _⟩ := B8.c4)
        | (go_at_call 27; (with_reducible refine (H2.out _).mono ?_); rintro e' w3 ⟨rfl, hb⟩; replace X8 := X8.call hb; replace B8 := B8.call hb; replace HB8 := bl_trans HB8 hb; clear p0 p1 p2 p3 p4 p5 p6 p7 p8 r0 r1 r2 r3 hb; obtain ⟨⟨p0, p1, p2, p3, p4, p5, p6, p7, p8⟩, _⟩ := X8.c9; obtain ⟨⟨r0, r1, r2, r3⟩, _⟩ := B8.c4))
      go_ret
      exact ⟨rfl, HB8⟩
    · rw [hv] at H1
      rw [hv2] at H2
      replace H1 := Lib.hid H1
      replace H2 := Lib.hid H2
      clear hv hv2
      go_enter Try.func5, Try.ntmps5
      go_wp2_with (first
        | (go_at_call 13; (refine (awake08_calls _).mono ?_); rintro e' w1 ⟨rfl, hb⟩; replace X8 := X8.call hb; replace B8 := B8.call hb; replace HB8 := bl_trans HB8 hb; clear hb; obtain ⟨⟨p0, p1, p2, p3, p4, p5, p6, p7, p8⟩, _⟩ := X8.c9; obtain ⟨⟨r0, r1, r2, r3⟩, _⟩ := B8.c4)
        | (go_at_call 26; (with_reducible refine (H1.out _).mono ?_); rintro e' w2 ⟨rfl, hb⟩; replace X8 := X8.call hb; replace B8 := B8.call hb; replace HB8 := bl_trans HB8 hb; clear p0 p1 p2 p3 p4 p5 p6 p7 p8 r0 r1 r2 r3 hb; obtain ⟨⟨p0, p1, p2, p3, p4, p5, p6, p7, p8⟩, _⟩ := X8.c9; obtain ⟨⟨r0, r1, r2, r3⟩, _⟩ := B8.c4)
        | (go_at_call 27; (with_reducible refine (H2.out _).mono ?_); rintro e' w3 ⟨rfl, hb⟩; replace X8 := X8.call hb; replace B8 := B8.call hb; replace HB8 := bl_trans HB8 hb; clear p0 p1 p2 p3 p4 p5 p6 p7 p8 r0 r1 r2 r3 hb; obtain ⟨⟨p0, p1, p2, p3, p4, p5, p6, p7, p8⟩, _⟩ := X8.c9; obtain ⟨⟨r0, r1, r2, r3⟩, _⟩ := B8.c4))
      go_ret
      exact ⟨rfl, HB8⟩
end Go.Proofs.Ytagojbgmgkkdpaa.Wk
