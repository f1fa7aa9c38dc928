/- Walk: iv.Inflate. -/
import Derived.Test.YtagojbgmgkkdpaaArY
namespace Go.Proofs.Ytagojbgmgkkdpaa.Wk
open Go.RowKit Go.Proofs.Pl Go.Proofs.YtagojbgmgkkdpaaW.PrintLast
set_option linter.unusedSimpArgs false
set_option linter.unusedVariables false

set_option maxRecDepth 100000 in
set_option maxHeartbeats 8000000 in
theorem inflateI_calls (a0 : Bool) (a1 : Int) (a2 : Bool) (a3 a4 a5 : Int) (a6 : Bool) (a7 a8 : Int) (b0 : Int) (b1 : Bool) (b2 b3 : Int) (wa : WfIv ⟨a0, ⟨a1, a2, a3, a4⟩, ⟨a5, a6, a7, a8⟩⟩) (wb : Wf ⟨b0, b1, b2, b3⟩) (w : World) :
    Calls Try.prog 17 #[.agg #[.bool a0, .int .i64 a1, .bool a2, .int .u64 a3, .int .i64 a4, .int .i64 a5, .bool a6, .int .u64 a7, .int .i64 a8], .agg #[.int .i64 b0, .bool b1, .int .u64 b2, .int .i64 b3]] w fun e w' => e = .returned (.agg #[.bool (inflateI ⟨a0, ⟨a1, a2, a3, a4⟩, ⟨a5, a6, a7, a8⟩⟩ ⟨b0, b1, b2, b3⟩).emp, .int .i64 ((inflateI ⟨a0, ⟨a1, a2, a3, a4⟩, ⟨a5, a6, a7, a8⟩⟩ ⟨b0, b1, b2, b3⟩).lo).k, .bool ((inflateI ⟨a0, ⟨a1, a2, a3, a4⟩, ⟨a5, a6, a7, a8⟩⟩ ⟨b0, b1, b2, b3⟩).lo).n, .int .u64 ((inflateI ⟨a0, ⟨a1, a2, a3, a4⟩, ⟨a5, a6, a7, a8⟩⟩ ⟨b0, b1, b2, b3⟩).lo).m, .int .i64 ((inflateI ⟨a0, ⟨a1, a2, a3, a4⟩, ⟨a5, a6, a7, a8⟩⟩ ⟨b0, b1, b2, b3⟩).lo).e, .int .i64 ((inflateI ⟨a0, ⟨a1, a2, a3, a4⟩, ⟨a5, a6, a7, a8⟩⟩ ⟨b0, b1, b2, b3⟩).hi).k, .bool ((inflateI ⟨a0, ⟨a1, a2, a3, a4⟩, ⟨a5, a6, a7, a8⟩⟩ ⟨b0, b1, b2, b3⟩).hi).n, .int .u64 ((inflateI ⟨a0, ⟨a1, a2, a3, a4⟩, ⟨a5, a6, a7, a8⟩⟩ ⟨b0, b1, b2, b3⟩).hi).m, .int .i64 ((inflateI ⟨a0, ⟨a1, a2, a3, a4⟩, ⟨a5, a6, a7, a8⟩⟩ ⟨b0, b1, b2, b3⟩).hi).e]) ∧ Below w.heap.size w w' := by
  have HF := Lib.hid (fun W => fairI_calls a0 a1 a2 a3 a4 a5 a6 a7 a8 W)
  have HS := Lib.hid (fun W => signN_calls b0 b1 b2 b3 W)
  have wf := fairI_wf wa
  unfold inflateI
  generalize fairI ⟨a0, ⟨a1, a2, a3, a4⟩, ⟨a5, a6, a7, a8⟩⟩ = c at HF wf ⊢
  generalize signN ⟨b0, b1, b2, b3⟩ = s at HS ⊢
  obtain ⟨c0, ⟨c1, c2, c3, c4⟩, ⟨c5, c6, c7, c8⟩⟩ := c
  obtain ⟨wl, wh⟩ := wf
  dsimp only at HF wl wh ⊢
  cases c0
  · by_cases hs : s < 0
    · rw [if_pos (.inr hs)]
      clear wl wh wa wb
      have X0 := ((Blk.new w 26 #[.bool a0, .int .i64 a1, .bool a2, .int .u64 a3, .int .i64 a4, .int .i64 a5, .bool a6, .int .u64 a7, .int .i64 a8]).alloc (.cells #[.int .i64 b0, .bool b1, .int .u64 b2, .int .i64 b3] 24)).alloc (.cells #[.bool false, .int .i64 0, .bool false, .int .u64 0, .int .i64 0, .int .i64 0, .bool false, .int .u64 0, .int .i64 0] 26)
      have Y0 := (Blk.new1 w (.cells #[.bool a0, .int .i64 a1, .bool a2, .int .u64 a3, .int .i64 a4, .int .i64 a5, .bool a6, .int .u64 a7, .int .i64 a8] 26) 24 #[.int .i64 b0, .bool b1, .int .u64 b2, .int .i64 b3]).alloc (.cells #[.bool false, .int .i64 0, .bool false, .int .u64 0, .int .i64 0, .int .i64 0, .bool false, .int .u64 0, .int .i64 0] 26)
      have R0 := Blk.new2 w (.cells #[.bool a0, .int .i64 a1, .bool a2, .int .u64 a3, .int .i64 a4, .int .i64 a5, .bool a6, .int .u64 a7, .int .i64 a8] 26) (.cells #[.int .i64 b0, .bool b1, .int .u64 b2, .int .i64 b3] 24) 26 #[.bool false, .int .i64 0, .bool false, .int .u64 0, .int .i64 0, .int .i64 0, .bool false, .int .u64 0, .int .i64 0]
      have HB0 := bl_alloc (bl_alloc (bl_alloc (Below.refl w.heap.size w) (.cells #[.bool a0, .int .i64 a1, .bool a2, .int .u64 a3, .int .i64 a4, .int .i64 a5, .bool a6, .int .u64 a7, .int .i64 a8] 26)) (.cells #[.int .i64 b0, .bool b1, .int .u64 b2, .int .i64 b3] 24)) (.cells #[.bool false, .int .i64 0, .bool false, .int .u64 0, .int .i64 0, .int .i64 0, .bool false, .int .u64 0, .int .i64 0] 26)
      go_enter Try.func17, Try.ntmps17
      go_wp2_with (first
        | (go_at_call 63; (refine (HF.out _).mono ?_); rintro e' w1 ⟨rfl, hb⟩; have X1 := X0.call hb; have Y1 := Y0.call hb; have R1 := R0.call hb; have HB1 := bl_trans HB0 hb; clear hb)
        | (refine wpList_stG rfl 26 (.tmp 2) (.tmp 6) rfl w.heap.size _ #[.bool false, .int .i64 c1, .bool c2, .int .u64 c3, .int .i64 c4, .int .i64 c5, .bool c6, .int .u64 c7, .int .i64 c8] X1 rfl rfl (by kernel_rfl) rfl (by simp [Value.oneCell']) ?_; intro W2 X2 P2; have Y2 := P2.blk Y1 (by omega); have R2 := P2.blk R1 (by omega); have HB2 := P2.bel HB1 (Nat.le_refl _); obtain ⟨⟨q0, q1, q2, q3, q4, q5, q6, q7, q8⟩, _⟩ := X2.c9; obtain ⟨⟨y0, y1, y2, y3⟩, _⟩ := Y2.c4)
        | (go_at_call 15; (refine (HS.out _).mono ?_); rintro e' w3 ⟨rfl, hb⟩; have X3 := X2.call hb; have Y3 := Y2.call hb; have R3 := R2.call hb; have HB3 := bl_trans HB2 hb; clear hb q0 q1 q2 q3 q4 q5 q6 q7 q8 y0 y1 y2 y3; obtain ⟨⟨q0, q1, q2, q3, q4, q5, q6, q7, q8⟩, _⟩ := X3.c9; obtain ⟨⟨y0, y1, y2, y3⟩, _⟩ := Y3.c4)
        | (refine wpList_stG rfl 26 (.tmp 4) (.tmp 14) rfl (w.heap.size + 1 + 1) _ #[.bool false, .int .i64 c1, .bool c2, .int .u64 c3, .int .i64 c4, .int .i64 c5, .bool c6, .int .u64 c7, .int .i64 c8] R3 rfl rfl (by kernel_rfl) rfl (by simp [Value.oneCell']) ?_; intro W9 B9 P9; have HB9 := P9.bel HB3 (by omega)))
      exact bodyPost_ret (results_cell_row rfl _ _ (w.heap.size + 1 + 1) 26 _ (0, 0) _ rfl B9 Try.underlying26 rfl (by kernel_rfl)) rfl ⟨rfl, HB9⟩
    · rw [if_neg (by simp; omega)]
      have HA := Lib.hid (fun W => subN_calls c1 c2 c3 c4 b0 b1 b2 b3 false wl wb W)
      have HD := Lib.hid (fun W => addN_calls ⟨c5, c6, c7, c8⟩ ⟨b0, b1, b2, b3⟩ wh wb true W)
      generalize subN _ _ _ = l at HA ⊢
      generalize addN _ _ _ = h at HD ⊢
      obtain ⟨l0, l1, l2, l3⟩ := l
      obtain ⟨h0, h1, h2, h3⟩ := h
      have HM := Lib.hid (fun W => makeI_calls l0 l1 l2 l3 h0 h1 h2 h3 W)
      generalize makeI _ _ = p at HM ⊢
      obtain ⟨p0, ⟨p1, p2, p3, p4⟩, ⟨p5, p6, p7, p8⟩⟩ := p
      dsimp only at HA HD HM
      clear wl wh wa wb
      have X0 := ((Blk.new w 26 #[.bool a0, .int .i64 a1, .bool a2, .int .u64 a3, .int .i64 a4, .int .i64 a5, .bool a6, .int .u64 a7, .int .i64 a8]).alloc (.cells #[.int .i64 b0, .bool b1, .int .u64 b2, .int .i64 b3] 24)).alloc (.cells #[.bool false, .int .i64 0, .bool false, .int .u64 0, .int .i64 0, .int .i64 0, .bool false, .int .u64 0, .int .i64 0] 26)
      have Y0 := (Blk.new1 w (.cells #[.bool a0, .int .i64 a1, .bool a2, .int .u64 a3, .int .i64 a4, .int .i64 a5, .bool a6, .int .u64 a7, .int .i64 a8] 26) 24 #[.int .i64 b0, .bool b1, .int .u64 b2, .int .i64 b3]).alloc (.cells #[.bool false, .int .i64 0, .bool false, .int .u64 0, .int .i64 0, .int .i64 0, .bool false, .int .u64 0, .int .i64 0] 26)
      have R0 := Blk.new2 w (.cells #[.bool a0, .int .i64 a1, .bool a2, .int .u64 a3, .int .i64 a4, .int .i64 a5, .bool a6, .int .u64 a7, .int .i64 a8] 26) (.cells #[.int .i64 b0, .bool b1, .int .u64 b2, .int .i64 b3] 24) 26 #[.bool false, .int .i64 0, .bool false, .int .u64 0, .int .i64 0, .int .i64 0, .bool false, .int .u64 0, .int .i64 0]
      have HB0 := bl_alloc (bl_alloc (bl_alloc (Below.refl w.heap.size w) (.cells #[.bool a0, .int .i64 a1, .bool a2, .int .u64 a3, .int .i64 a4, .int .i64 a5, .bool a6, .int .u64 a7, .int .i64 a8] 26)) (.cells #[.int .i64 b0, .bool b1, .int .u64 b2, .int .i64 b3] 24)) (.cells #[.bool false, .int .i64 0, .bool false, .int .u64 0, .int .i64 0, .int .i64 0, .bool false, .int .u64 0, .int .i64 0] 26)
      go_enter Try.func17, Try.ntmps17
      go_wp2_with (first
        | (go_at_call 63; (refine (HF.out _).mono ?_); rintro e' w1 ⟨rfl, hb⟩; have X1 := X0.call hb; have Y1 := Y0.call hb; have R1 := R0.call hb; have HB1 := bl_trans HB0 hb; clear hb)
        | (refine wpList_stG rfl 26 (.tmp 2) (.tmp 6) rfl w.heap.size _ #[.bool false, .int .i64 c1, .bool c2, .int .u64 c3, .int .i64 c4, .int .i64 c5, .bool c6, .int .u64 c7, .int .i64 c8] X1 rfl rfl (by kernel_rfl) rfl (by simp [Value.oneCell']) ?_; intro W2 X2 P2; have Y2 := P2.blk Y1 (by omega); have R2 := P2.blk R1 (by omega); have HB2 := P2.bel HB1 (Nat.le_refl _); obtain ⟨⟨q0, q1, q2, q3, q4, q5, q6, q7, q8⟩, _⟩ := X2.c9; obtain ⟨⟨y0, y1, y2, y3⟩, _⟩ := Y2.c4)
        | (go_at_call 15; (refine (HS.out _).mono ?_); rintro e' w3 ⟨rfl, hb⟩; have X3 := X2.call hb; have Y3 := Y2.call hb; have R3 := R2.call hb; have HB3 := bl_trans HB2 hb; clear hb q0 q1 q2 q3 q4 q5 q6 q7 q8 y0 y1 y2 y3; obtain ⟨⟨q0, q1, q2, q3, q4, q5, q6, q7, q8⟩, _⟩ := X3.c9; obtain ⟨⟨y0, y1, y2, y3⟩, _⟩ := Y3.c4)
        | (refine wpList_stG rfl 26 (.tmp 4) (.tmp 14) rfl (w.heap.size + 1 + 1) _ #[.bool false, .int .i64 c1, .bool c2, .int .u64 c3, .int .i64 c4, .int .i64 c5, .bool c6, .int .u64 c7, .int .i64 c8] R3 rfl rfl (by kernel_rfl) rfl (by simp [Value.oneCell']) ?_; intro W9 B9 P9; have HB9 := P9.bel HB3 (by omega)))
      clear q0 q1 q2 q3 q4 q5 q6 q7 q8 y0 y1 y2 y3
      replace X3 := X3.drew
      replace Y3 := Y3.drew
      replace R3 := R3.drew
      replace HB3 := bl_drew HB3
      refine start_ (n := 10) (S := fun w' => w'.cell? ⟨w.heap.size, 0, none⟩ = some (.bool false) ∧ w'.cell? ⟨w.heap.size, 1, none⟩ = some (.int .i64 c1) ∧ w'.cell? ⟨w.heap.size, 2, none⟩ = some (.bool c2) ∧ w'.cell? ⟨w.heap.size, 3, none⟩ = some (.int .u64 c3) ∧ w'.cell? ⟨w.heap.size, 4, none⟩ = some (.int .i64 c4) ∧ w'.cell? ⟨w.heap.size, 5, none⟩ = some (.int .i64 c5) ∧ w'.cell? ⟨w.heap.size, 6, none⟩ = some (.bool c6) ∧ w'.cell? ⟨w.heap.size, 7, none⟩ = some (.int .u64 c7) ∧ w'.cell? ⟨w.heap.size, 8, none⟩ = some (.int .i64 c8) ∧ w'.cell? ⟨(w.heap.size + 1), 0, none⟩ = some (.int .i64 b0) ∧ w'.cell? ⟨(w.heap.size + 1), 1, none⟩ = some (.bool b1) ∧ w'.cell? ⟨(w.heap.size + 1), 2, none⟩ = some (.int .u64 b2) ∧ w'.cell? ⟨(w.heap.size + 1), 3, none⟩ = some (.int .i64 b3)) (ds := [9]) (bq 10 0) (by kernel_rfl) rfl rfl ⟨X3.cell 0, X3.cell 1, X3.cell 2, X3.cell 3, X3.cell 4, X3.cell 5, X3.cell 6, X3.cell 7, X3.cell 8, Y3.cell 0, Y3.cell 1, Y3.cell 2, Y3.cell 3⟩ (fun hHeld => ?_)
      generalize w3.drew = W3 at X3 Y3 R3 HB3 hHeld ⊢
      refine pure_ (i := 0) (N := some 15) (v := ?_) (a' := ?_) (bq 10 1) rfl rfl (by kernel_rfl) (fun _ _ _ h => h) (Or.inl ⟨by rfl, ?_⟩) ?_ ?_
      rotate_left
      · intro w'
        go_simp
        with_reducible rfl
      rotate_left
      · simp only [Act.put, pA, pB, pC]
        rfl
      refine take_ (i := 1) (N := some 16) (v := ?_) (a' := ?_) (bq 10 3) rfl rfl (by kernel_rfl) (fun _ _ _ h => h) (Or.inl ⟨by rfl, ?_⟩) hHeld ?_ ?_
      rotate_left
      · rintro w' ⟨s0_, s1_, s2_, s3_, s4_, s5_, s6_, s7_, s8_, s9_, s10_, s11_, s12_⟩
        go_simp
        with_reducible rfl
      rotate_left
      · simp only [Act.put, pA, pB, pC]
        rfl
      refine take_ (i := 2) (N := some 17) (v := ?_) (a' := ?_) (bq 10 7) rfl rfl (by kernel_rfl) (fun _ _ _ h => h) (Or.inl ⟨by rfl, ?_⟩) hHeld ?_ ?_
      rotate_left
      · rintro w' ⟨s0_, s1_, s2_, s3_, s4_, s5_, s6_, s7_, s8_, s9_, s10_, s11_, s12_⟩
        go_simp
        with_reducible rfl
      rotate_left
      · simp only [Act.put, pA, pB, pC]
        rfl
      refine pure_ (i := 4) (N := some 19) (v := ?_) (a' := ?_) (bq 10 23) rfl rfl (by kernel_rfl) (fun _ _ _ h => h) (Or.inl ⟨by rfl, ?_⟩) ?_ ?_
      rotate_left
      · intro w'
        go_simp
        with_reducible rfl
      rotate_left
      · simp only [Act.put, pA, pB, pC]
        rfl
      refine take_ (i := 5) (N := some 20) (v := ?_) (a' := ?_) (bq 10 55) rfl rfl (by kernel_rfl) (fun _ _ _ h => h) (Or.inl ⟨by rfl, ?_⟩) hHeld ?_ ?_
      rotate_left
      · rintro w' ⟨s0_, s1_, s2_, s3_, s4_, s5_, s6_, s7_, s8_, s9_, s10_, s11_, s12_⟩
        go_simp
        with_reducible rfl
      rotate_left
      · simp only [Act.put, pA, pB, pC]
        rfl
      refine take_ (i := 6) (N := some 21) (v := ?_) (a' := ?_) (bq 10 119) rfl rfl (by kernel_rfl) (fun _ _ _ h => h) (Or.inl ⟨by rfl, ?_⟩) hHeld ?_ ?_
      rotate_left
      · rintro w' ⟨s0_, s1_, s2_, s3_, s4_, s5_, s6_, s7_, s8_, s9_, s10_, s11_, s12_⟩
        go_simp
        with_reducible rfl
      rotate_left
      · simp only [Act.put, pA, pB, pC]
        rfl
      refine one_ (i := 3) (N := some 18) (bq 10 127) rfl rfl (by kernel_rfl) (by decide) (fun K hK => ?_)
      refine goes_ Try.func64 (by kernel_rfl) rfl #[.agg #[.int .i64 c1, .bool c2, .int .u64 c3, .int .i64 c4], .agg #[.int .i64 b0, .bool b1, .int .u64 b2, .int .i64 b3], .bool false] (by first | rfl | go_simp) rfl rfl (by simp only [List.map_toArray, List.map_cons, List.map_nil] <;> rfl) ?_
      with_reducible refine (HA.out _).mono ?_
      rintro e w4 ⟨rfl, hb⟩
      refine ⟨_, rfl, ?_⟩
      have X3 := X3.call hb
      have Y3 := Y3.call hb
      have R3 := R3.call hb
      have HB3 := bl_trans HB3 hb
      refine hK.out _ _ ⟨X3.cell 0, X3.cell 1, X3.cell 2, X3.cell 3, X3.cell 4, X3.cell 5, X3.cell 6, X3.cell 7, X3.cell 8, Y3.cell 0, Y3.cell 1, Y3.cell 2, Y3.cell 3⟩ (fun hHeld => ?_)
      clear hK K hb
      refine norm_ (a' := ?_) ?_ ?_
      rotate_left
      · show Act.put _ (some 18) _ = _
        simp only [Act.put, pA, pB, pC]
        rfl
      refine one_ (i := 7) (N := some 22) (bq 10 255) rfl rfl (by kernel_rfl) (by decide) (fun K hK => ?_)
      refine goes_ Try.func65 (by kernel_rfl) rfl #[.agg #[.int .i64 c5, .bool c6, .int .u64 c7, .int .i64 c8], .agg #[.int .i64 b0, .bool b1, .int .u64 b2, .int .i64 b3], .bool true] (by first | rfl | go_simp) rfl rfl (by simp only [List.map_toArray, List.map_cons, List.map_nil] <;> rfl) ?_
      with_reducible refine (HD.out _).mono ?_
      rintro e w5 ⟨rfl, hb⟩
      refine ⟨_, rfl, ?_⟩
      have X3 := X3.call hb
      have Y3 := Y3.call hb
      have R3 := R3.call hb
      have HB3 := bl_trans HB3 hb
      refine hK.out _ _ ⟨X3.cell 0, X3.cell 1, X3.cell 2, X3.cell 3, X3.cell 4, X3.cell 5, X3.cell 6, X3.cell 7, X3.cell 8, Y3.cell 0, Y3.cell 1, Y3.cell 2, Y3.cell 3⟩ (fun hHeld => ?_)
      clear hK K hb
      refine norm_ (a' := ?_) ?_ ?_
      rotate_left
      · show Act.put _ (some 22) _ = _
        simp only [Act.put, pA, pB, pC]
        rfl
      refine one_ (i := 8) (N := some 23) (bq 10 511) rfl rfl (by kernel_rfl) (by decide) (fun K hK => ?_)
      refine goes_ Try.func51 (by kernel_rfl) rfl #[.agg #[.int .i64 l0, .bool l1, .int .u64 l2, .int .i64 l3], .agg #[.int .i64 h0, .bool h1, .int .u64 h2, .int .i64 h3]] (by first | rfl | go_simp) rfl rfl (by simp only [List.map_toArray, List.map_cons, List.map_nil] <;> rfl) ?_
      with_reducible refine (HM.out _).mono ?_
      rintro e w6 ⟨rfl, hb⟩
      refine ⟨_, rfl, ?_⟩
      have X3 := X3.call hb
      have Y3 := Y3.call hb
      have R3 := R3.call hb
      have HB3 := bl_trans HB3 hb
      refine hK.out _ _ ⟨X3.cell 0, X3.cell 1, X3.cell 2, X3.cell 3, X3.cell 4, X3.cell 5, X3.cell 6, X3.cell 7, X3.cell 8, Y3.cell 0, Y3.cell 1, Y3.cell 2, Y3.cell 3⟩ (fun hHeld => ?_)
      clear hK K hb
      refine norm_ (a' := ?_) ?_ ?_
      rotate_left
      · show Act.put _ (some 23) _ = _
        simp only [Act.put, pA, pB, pC]
        rfl
      obtain ⟨⟨z0, z1, z2, z3, z4, z5, z6, z7, z8⟩, ⟨k0, k1, k2, k3, k4, k5, k6, k7, k8⟩⟩ := R3.c9
      obtain ⟨W9, hW9, B9, _, hL9, _⟩ := put9 R3 (.bool p0) (.int .i64 p1) (.bool p2) (.int .u64 p3) (.int .i64 p4) (.int .i64 p5) (.bool p6) (.int .u64 p7) (.int .i64 p8)
      have HB9 := hL9 w HB3 (by omega)
      refine last_ (i := 9) (N := none) (bq 10 1023) rfl rfl (by kernel_rfl) (by decide) (fun K hK => ?_)
      refine skip_ (w1 := ?_) (by rfl) rfl ?_ ?_
      rotate_left
      · go_simp
        rfl
      refine hK.out _ _ ?_
      clear hK K
      refine done_ (by kernel_rfl) ?_
      clear hHeld X3 Y3 HB3
      go_wp2
      exact bodyPost_ret (results_cell_row rfl _ _ (w.heap.size + 1 + 1) 26 _ (0, 0) _ rfl B9 Try.underlying26 rfl (by kernel_rfl)) rfl ⟨rfl, HB9⟩
  · rw [if_pos (.inl rfl)]
    clear wl wh wa wb
    have X0 := ((Blk.new w 26 #[.bool a0, .int .i64 a1, .bool a2, .int .u64 a3, .int .i64 a4, .int .i64 a5, .bool a6, .int .u64 a7, .int .i64 a8]).alloc (.cells #[.int .i64 b0, .bool b1, .int .u64 b2, .int .i64 b3] 24)).alloc (.cells #[.bool false, .int .i64 0, .bool false, .int .u64 0, .int .i64 0, .int .i64 0, .bool false, .int .u64 0, .int .i64 0] 26)
    have Y0 := (Blk.new1 w (.cells #[.bool a0, .int .i64 a1, .bool a2, .int .u64 a3, .int .i64 a4, .int .i64 a5, .bool a6, .int .u64 a7, .int .i64 a8] 26) 24 #[.int .i64 b0, .bool b1, .int .u64 b2, .int .i64 b3]).alloc (.cells #[.bool false, .int .i64 0, .bool false, .int .u64 0, .int .i64 0, .int .i64 0, .bool false, .int .u64 0, .int .i64 0] 26)
    have R0 := Blk.new2 w (.cells #[.bool a0, .int .i64 a1, .bool a2, .int .u64 a3, .int .i64 a4, .int .i64 a5, .bool a6, .int .u64 a7, .int .i64 a8] 26) (.cells #[.int .i64 b0, .bool b1, .int .u64 b2, .int .i64 b3] 24) 26 #[.bool false, .int .i64 0, .bool false, .int .u64 0, .int .i64 0, .int .i64 0, .bool false, .int .u64 0, .int .i64 0]
    have HB0 := bl_alloc (bl_alloc (bl_alloc (Below.refl w.heap.size w) (.cells #[.bool a0, .int .i64 a1, .bool a2, .int .u64 a3, .int .i64 a4, .int .i64 a5, .bool a6, .int .u64 a7, .int .i64 a8] 26)) (.cells #[.int .i64 b0, .bool b1, .int .u64 b2, .int .i64 b3] 24)) (.cells #[.bool false, .int .i64 0, .bool false, .int .u64 0, .int .i64 0, .int .i64 0, .bool false, .int .u64 0, .int .i64 0] 26)
    go_enter Try.func17, Try.ntmps17
    go_wp2_with (first
      | (go_at_call 63; (refine (HF.out _).mono ?_); rintro e' w1 ⟨rfl, hb⟩; have X1 := X0.call hb; have Y1 := Y0.call hb; have R1 := R0.call hb; have HB1 := bl_trans HB0 hb; clear hb)
      | (refine wpList_stG rfl 26 (.tmp 2) (.tmp 6) rfl w.heap.size _ #[.bool true, .int .i64 c1, .bool c2, .int .u64 c3, .int .i64 c4, .int .i64 c5, .bool c6, .int .u64 c7, .int .i64 c8] X1 rfl rfl (by kernel_rfl) rfl (by simp [Value.oneCell']) ?_; intro W2 X2 P2; have Y2 := P2.blk Y1 (by omega); have R2 := P2.blk R1 (by omega); have HB2 := P2.bel HB1 (Nat.le_refl _); obtain ⟨⟨q0, q1, q2, q3, q4, q5, q6, q7, q8⟩, _⟩ := X2.c9; obtain ⟨⟨y0, y1, y2, y3⟩, _⟩ := Y2.c4)
      | (go_at_call 15; (refine (HS.out _).mono ?_); rintro e' w3 ⟨rfl, hb⟩; have X3 := X2.call hb; have Y3 := Y2.call hb; have R3 := R2.call hb; have HB3 := bl_trans HB2 hb; clear hb q0 q1 q2 q3 q4 q5 q6 q7 q8 y0 y1 y2 y3; obtain ⟨⟨q0, q1, q2, q3, q4, q5, q6, q7, q8⟩, _⟩ := X3.c9; obtain ⟨⟨y0, y1, y2, y3⟩, _⟩ := Y3.c4)
      | (refine wpList_stG rfl 26 (.tmp 4) (.tmp 14) rfl (w.heap.size + 1 + 1) _ #[.bool true, .int .i64 c1, .bool c2, .int .u64 c3, .int .i64 c4, .int .i64 c5, .bool c6, .int .u64 c7, .int .i64 c8] R2 rfl rfl (by kernel_rfl) rfl (by simp [Value.oneCell']) ?_; intro W9 B9 P9; have HB9 := P9.bel HB2 (by omega)))
    exact bodyPost_ret (results_cell_row rfl _ _ (w.heap.size + 1 + 1) 26 _ (0, 0) _ rfl B9 Try.underlying26 rfl (by kernel_rfl)) rfl ⟨rfl, HB9⟩
end Go.Proofs.Ytagojbgmgkkdpaa.Wk
