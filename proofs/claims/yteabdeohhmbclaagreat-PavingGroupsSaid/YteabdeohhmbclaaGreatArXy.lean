/- Walks: arith.Half, iv.Mid, iv.Width. -/
import Derived.Test.YteabdeohhmbclaaGreatArWy
import Derived.Test.YteabdeohhmbclaaGreatAwAy
namespace Go.Proofs.YteabdeohhmbclaaGreat.Wk
open Go.RowKit Go.Proofs.Pl Go.Proofs.YteabdeohhmbclaaGreatW.PrintLast
set_option linter.unusedSimpArgs false
set_option linter.unusedVariables false

set_option maxRecDepth 100000 in
set_option maxHeartbeats 4000000 in
theorem halfN_calls (a0 : Int) (a1 : Bool) (a2 a3 : Int) (up : Bool) (wa : Wf ⟨a0, a1, a2, a3⟩) (w : World) :
  Calls Tryz.prog 94 #[.agg #[.i a0, .b a1, .u a2, .i a3], .b up] w fun e w' => e = .returned (.agg #[.i (halfN ⟨a0, a1, a2, a3⟩ up).k, .b (halfN ⟨a0, a1, a2, a3⟩ up).n, .u (halfN ⟨a0, a1, a2, a3⟩ up).m, .i (halfN ⟨a0, a1, a2, a3⟩ up).e]) ∧ Below w.heap.size w w' := by
 have HM := Lib.hid (fun W => mulN_calls ⟨a0, a1, a2, a3⟩ ⟨1, false, 9223372036854775808, -64⟩ wa (by unfold Wf; simp) up W)
 unfold halfN halfC
 generalize mulN _ _ _ = c at HM ⊢
 dsimp only at HM
 have X0 := (Blk.new w 32 #[.i a0, .b a1, .u a2, .i a3]).alloc (.cells #[.i 0, .b false, .u 0, .i 0] 32)
 have BR0 := Blk.new1 w (.cells #[.i a0, .b a1, .u a2, .i a3] 32) 32 #[.i 0, .b false, .u 0, .i 0]
 have HB0 := bl_alloc (bl_alloc (Below.refl w.heap.size w) (.cells #[.i a0, .b a1, .u a2, .i a3] 32)) (.cells #[.i 0, .b false, .u 0, .i 0] 32)
 go_enter Tryz.func94, Tryz.ntmps94
 go_wp2_with (first
  | (go_at_call 9; (refine (of_1 _).mono ?_); rintro e' w1 ⟨rfl, hb⟩; have X1 := X0.call hb; have BR1 := BR0.call hb; have HB1 := bl_trans HB0 hb; have hx := X1.lt; have hr := BR1.lt; clear hb)
  | (refine wpList_stG rfl 32 (.tmp 5) (.tmp 6) rfl w1.heap.size _ #[.i 1, .b false, .u 9223372036854775808, .i (-63)] (Blk.new w1 _ _) rfl rfl (by kernel_rfl) rfl (by simp [Value.oneCell']) ?_; intro W2 D2 P2; have X2 := P2.blk (X1.alloc _) (by omega); have BR2 := P2.blk (BR1.alloc _) (by omega); have HB2 := P2.bel (bl_alloc HB1 _) (by omega); obtain ⟨⟨d0, d1, d2, d3⟩, ⟨g0, g1, g2, g3⟩⟩ := D2.c4; obtain ⟨⟨q0, q1, q2, q3⟩, _⟩ := X2.c4)
  | (go_at_call 103; (refine (HM.out _).mono ?_); rintro e' w3 ⟨rfl, hb⟩; have HB3 := bl_trans (bl_set HB2 (p := ⟨w1.heap.size, 3, none⟩) (by show w.heap.size ≤ w1.heap.size; omega) _) hb; have BR3 := (BR2.far (p := ⟨w1.heap.size, 3, none⟩) (by show w.heap.size + 1 ≠ w1.heap.size; omega) _).call hb; clear hb)
  | (refine wpList_stG rfl 32 (.tmp 4) (.tmp 14) rfl (w.heap.size + 1) _ #[.i c.k, .b c.n, .u c.m, .i c.e] BR3 rfl rfl (by kernel_rfl) rfl (by simp [Value.oneCell']) ?_; intro W4 B4 P4; have HB4 := P4.bel HB3 (by omega)))
 exact bodyPost_ret (results_cell_row rfl _ _ (w.heap.size + 1) 32 _ (0, 0) _ rfl B4 Tryz.underlying32 rfl (by kernel_rfl)) rfl ⟨rfl, HB4⟩

theorem SlN.two {w : World} {g B : Nat} {T : TypeId} {x y : Num} (h : Blk w g T #[.i x.k, .b x.n, .u x.m, .i x.e, .i y.k, .b y.n, .u y.m, .i y.e]) (hB : g < B) :
  SlN w B (some ⟨g, 0, none⟩) 2 [x, y] := by
 refine ⟨rfl, fun _ => ⟨g, 0, rfl, hB, fun i z hz => ?_⟩⟩
 match i, hz with
 | 0, hz =>
  simp only [List.getElem?_cons_zero, Option.some.injEq] at hz
  subst hz
  exact ⟨h.cell 0, h.cell 1, h.cell 2, h.cell 3⟩
 | 1, hz =>
  simp only [List.getElem?_cons_succ, List.getElem?_cons_zero, Option.some.injEq] at hz
  subst hz
  exact ⟨h.cell 4, h.cell 5, h.cell 6, h.cell 7⟩
 | i + 2, hz => simp at hz

set_option maxRecDepth 100000 in
set_option maxHeartbeats 8000000 in
theorem midI_calls (a0 : Bool) (a1 : Int) (a2 : Bool) (a3 a4 a5 : Int) (a6 : Bool) (a7 a8 : Int) (wa : WfIv ⟨a0, ⟨a1, a2, a3, a4⟩, ⟨a5, a6, a7, a8⟩⟩) (w : World) :
  Calls Tryz.prog 78 #[.agg #[.b a0, .i a1, .b a2, .u a3, .i a4, .i a5, .b a6, .u a7, .i a8]] w fun e w' => e = .returned (.agg #[.i (midI ⟨a0, ⟨a1, a2, a3, a4⟩, ⟨a5, a6, a7, a8⟩⟩).k, .b (midI ⟨a0, ⟨a1, a2, a3, a4⟩, ⟨a5, a6, a7, a8⟩⟩).n, .u (midI ⟨a0, ⟨a1, a2, a3, a4⟩, ⟨a5, a6, a7, a8⟩⟩).m, .i (midI ⟨a0, ⟨a1, a2, a3, a4⟩, ⟨a5, a6, a7, a8⟩⟩).e]) ∧ Below w.heap.size w w' := by
 have HF := Lib.hid (fun W => fairI_calls a0 a1 a2 a3 a4 a5 a6 a7 a8 W)
 have wf := fairI_wf wa
 unfold midI
 generalize fairI ⟨a0, ⟨a1, a2, a3, a4⟩, ⟨a5, a6, a7, a8⟩⟩ = c at HF wf ⊢
 obtain ⟨c0, ⟨c1, c2, c3, c4⟩, ⟨c5, c6, c7, c8⟩⟩ := c
 obtain ⟨wl, wh⟩ := wf
 dsimp only at HF wl wh ⊢
 cases c0
 ·by_cases k1 : c1 = 2
  ·subst k1
   by_cases k2 : c5 = 2
   ·subst k2
    rw [if_pos (.inr ⟨rfl, rfl⟩)]
    clear wl wh wa
    have X0 := (Blk.new w 34 #[.b a0, .i a1, .b a2, .u a3, .i a4, .i a5, .b a6, .u a7, .i a8]).alloc (.cells #[.i 0, .b false, .u 0, .i 0] 32)
    have BR0 := Blk.new1 w (.cells #[.b a0, .i a1, .b a2, .u a3, .i a4, .i a5, .b a6, .u a7, .i a8] 34) 32 #[.i 0, .b false, .u 0, .i 0]
    have HB0 := bl_alloc (bl_alloc (Below.refl w.heap.size w) (.cells #[.b a0, .i a1, .b a2, .u a3, .i a4, .i a5, .b a6, .u a7, .i a8] 34)) (.cells #[.i 0, .b false, .u 0, .i 0] 32)
    go_enter Tryz.func78, Tryz.ntmps78
    go_wp2_with (first
     | (go_at_call 29; (refine (HF.out _).mono ?_); rintro e' w1 ⟨rfl, hb⟩; have X1 := X0.call hb; have BR1 := BR0.call hb; have HB1 := bl_trans HB0 hb; clear hb)
     | (refine wpList_stG rfl 34 (.tmp 1) (.tmp 7) rfl w.heap.size _ #[.b false, .i 2, .b c2, .u c3, .i c4, .i 2, .b c6, .u c7, .i c8] X1 rfl rfl (by kernel_rfl) rfl (by simp [Value.oneCell']) ?_; intro W2 X2 P2; have BR2 := P2.blk BR1 (by omega); have HB2 := P2.bel HB1 (Nat.le_refl _)))
    replace X2 := X2.drew
    replace BR2 := BR2.drew
    replace HB2 := bl_drew HB2
    refine start_ (n := 10) (S := fun w' => w'.cell? ⟨w.heap.size, 0, none⟩ = some (.b false) ∧ w'.cell? ⟨w.heap.size, 1, none⟩ = some (.i 2) ∧ w'.cell? ⟨w.heap.size, 2, none⟩ = some (.b c2) ∧ w'.cell? ⟨w.heap.size, 3, none⟩ = some (.u c3) ∧ w'.cell? ⟨w.heap.size, 4, none⟩ = some (.i c4) ∧ w'.cell? ⟨w.heap.size, 5, none⟩ = some (.i 2) ∧ w'.cell? ⟨w.heap.size, 6, none⟩ = some (.b c6) ∧ w'.cell? ⟨w.heap.size, 7, none⟩ = some (.u c7) ∧ w'.cell? ⟨w.heap.size, 8, none⟩ = some (.i c8)) (ds := []) (bq 10 0) (by kernel_rfl) rfl rfl ⟨X2.cell 0, X2.cell 1, X2.cell 2, X2.cell 3, X2.cell 4, X2.cell 5, X2.cell 6, X2.cell 7, X2.cell 8⟩ (fun hHeld => ?_)
    first | generalize W6.drew = W7 at X6 M6 BR6 HB6 hHeld ⊢ | generalize W2.drew = W3 at X2 BR2 HB2 hHeld ⊢
    refine pu 0 8 (bq 10 1) ?_ ?_ (fun _ => ?_) ?_ ?_
    rotate_left 2
    ·go_simp
     with_reducible rfl
    ·simp only [Act.put, pA, pB, pC]
     rfl
    refine pu 1 9 (bq 10 3) ?_ ?_ (fun _ => ?_) ?_ ?_
    rotate_left 2
    ·go_simp
     with_reducible rfl
    ·simp only [Act.put, pA, pB, pC]
     rfl
    refine tk 2 10 (bq 10 7) ?_ ?_ ?_ ?_ hHeld ?_
    rotate_left 2
    ·rintro w' ⟨s0_, s1_, s2_, s3_, s4_, s5_, s6_, s7_, s8_⟩
     go_simp
     with_reducible rfl
    ·simp only [Act.put, pA, pB, pC]
     rfl
    refine pu 3 11 (bq 10 15) ?_ ?_ (fun _ => ?_) ?_ ?_
    rotate_left 2
    ·go_simp
     with_reducible rfl
    ·simp only [Act.put, pA, pB, pC]
     rfl
    refine pu 4 12 (bq 10 31) ?_ ?_ (fun _ => ?_) ?_ ?_
    rotate_left 2
    ·go_simp
     with_reducible rfl
    ·simp only [Act.put, pA, pB, pC]
     rfl
    refine pu 5 13 (bq 10 63) ?_ ?_ (fun _ => ?_) ?_ ?_
    rotate_left 2
    ·go_simp
     with_reducible rfl
    ·simp only [Act.put, pA, pB, pC]
     rfl
    refine tk 6 14 (bq 10 127) ?_ ?_ ?_ ?_ hHeld ?_
    rotate_left 2
    ·rintro w' ⟨s0_, s1_, s2_, s3_, s4_, s5_, s6_, s7_, s8_⟩
     go_simp
     with_reducible rfl
    ·simp only [Act.put, pA, pB, pC]
     rfl
    refine pu 7 15 (bq 10 255) ?_ ?_ (fun _ => ?_) ?_ ?_
    rotate_left 2
    ·go_simp
     with_reducible rfl
    ·simp only [Act.put, pA, pB, pC]
     rfl
    refine pu 8 3 (bq 10 511) ?_ ?_ (fun _ => ?_) ?_ ?_
    rotate_left 2
    ·go_simp
     with_reducible rfl
    ·simp only [Act.put, pA, pB, pC]
     rfl
    refine pu 9 4 (bq 10 1023) ?_ ?_ (fun _ => ?_) ?_ ?_
    rotate_left 2
    ·go_simp
     with_reducible rfl
    ·simp only [Act.put, pA, pB, pC]
     rfl
    refine done_ (by kernel_rfl) ?_
    clear hHeld
    obtain ⟨⟨q0, q1, q2, q3, q4, q5, q6, q7, q8⟩, _⟩ := X2.c9
    go_wp2_with (refine wpList_stG rfl 32 (.tmp 2) (.tmp 23) rfl (w.heap.size + 1) _ #[.i 0, .b false, .u 0, .i 0] BR2 rfl rfl (by kernel_rfl) rfl (by simp [Value.oneCell']) ?_; intro W4 B4 P4; have HB4 := P4.bel HB2 (by omega))
    exact bodyPost_ret (results_cell_row rfl _ _ (w.heap.size + 1) 32 _ (0, 0) _ rfl B4 Tryz.underlying32 rfl (by kernel_rfl)) rfl ⟨rfl, HB4⟩
   ·rw [if_neg (by simp [k2]), if_pos rfl]
    have k2' : (c5 == 2) = false := beq_eq_false_iff_ne.2 k2
    clear wl wh wa
    have X0 := (Blk.new w 34 #[.b a0, .i a1, .b a2, .u a3, .i a4, .i a5, .b a6, .u a7, .i a8]).alloc (.cells #[.i 0, .b false, .u 0, .i 0] 32)
    have BR0 := Blk.new1 w (.cells #[.b a0, .i a1, .b a2, .u a3, .i a4, .i a5, .b a6, .u a7, .i a8] 34) 32 #[.i 0, .b false, .u 0, .i 0]
    have HB0 := bl_alloc (bl_alloc (Below.refl w.heap.size w) (.cells #[.b a0, .i a1, .b a2, .u a3, .i a4, .i a5, .b a6, .u a7, .i a8] 34)) (.cells #[.i 0, .b false, .u 0, .i 0] 32)
    go_enter Tryz.func78, Tryz.ntmps78
    go_wp2_with (first
     | (go_at_call 29; (refine (HF.out _).mono ?_); rintro e' w1 ⟨rfl, hb⟩; have X1 := X0.call hb; have BR1 := BR0.call hb; have HB1 := bl_trans HB0 hb; clear hb)
     | (refine wpList_stG rfl 34 (.tmp 1) (.tmp 7) rfl w.heap.size _ #[.b false, .i 2, .b c2, .u c3, .i c4, .i c5, .b c6, .u c7, .i c8] X1 rfl rfl (by kernel_rfl) rfl (by simp [Value.oneCell']) ?_; intro W2 X2 P2; have BR2 := P2.blk BR1 (by omega); have HB2 := P2.bel HB1 (Nat.le_refl _)))
    replace X2 := X2.drew
    replace BR2 := BR2.drew
    replace HB2 := bl_drew HB2
    refine start_ (n := 10) (S := fun w' => w'.cell? ⟨w.heap.size, 0, none⟩ = some (.b false) ∧ w'.cell? ⟨w.heap.size, 1, none⟩ = some (.i 2) ∧ w'.cell? ⟨w.heap.size, 2, none⟩ = some (.b c2) ∧ w'.cell? ⟨w.heap.size, 3, none⟩ = some (.u c3) ∧ w'.cell? ⟨w.heap.size, 4, none⟩ = some (.i c4) ∧ w'.cell? ⟨w.heap.size, 5, none⟩ = some (.i c5) ∧ w'.cell? ⟨w.heap.size, 6, none⟩ = some (.b c6) ∧ w'.cell? ⟨w.heap.size, 7, none⟩ = some (.u c7) ∧ w'.cell? ⟨w.heap.size, 8, none⟩ = some (.i c8)) (ds := []) (bq 10 0) (by kernel_rfl) rfl rfl ⟨X2.cell 0, X2.cell 1, X2.cell 2, X2.cell 3, X2.cell 4, X2.cell 5, X2.cell 6, X2.cell 7, X2.cell 8⟩ (fun hHeld => ?_)
    first | generalize W6.drew = W7 at X6 M6 BR6 HB6 hHeld ⊢ | generalize W2.drew = W3 at X2 BR2 HB2 hHeld ⊢
    refine pu 0 8 (bq 10 1) ?_ ?_ (fun _ => ?_) ?_ ?_
    rotate_left 2
    ·go_simp
     with_reducible rfl
    ·simp only [Act.put, pA, pB, pC]
     rfl
    refine pu 1 9 (bq 10 3) ?_ ?_ (fun _ => ?_) ?_ ?_
    rotate_left 2
    ·go_simp
     with_reducible rfl
    ·simp only [Act.put, pA, pB, pC]
     rfl
    refine tk 2 10 (bq 10 7) ?_ ?_ ?_ ?_ hHeld ?_
    rotate_left 2
    ·rintro w' ⟨s0_, s1_, s2_, s3_, s4_, s5_, s6_, s7_, s8_⟩
     go_simp
     with_reducible rfl
    ·simp only [Act.put, pA, pB, pC]
     rfl
    refine pu 3 11 (bq 10 15) ?_ ?_ (fun _ => ?_) ?_ ?_
    rotate_left 2
    ·go_simp
     with_reducible rfl
    ·simp only [Act.put, pA, pB, pC]
     rfl
    refine pu 4 12 (bq 10 31) ?_ ?_ (fun _ => ?_) ?_ ?_
    rotate_left 2
    ·go_simp
     with_reducible rfl
    ·simp only [Act.put, pA, pB, pC]
     rfl
    refine pu 5 13 (bq 10 63) ?_ ?_ (fun _ => ?_) ?_ ?_
    rotate_left 2
    ·go_simp
     with_reducible rfl
    ·simp only [Act.put, pA, pB, pC]
     rfl
    refine tk 6 14 (bq 10 127) ?_ ?_ ?_ ?_ hHeld ?_
    rotate_left 2
    ·rintro w' ⟨s0_, s1_, s2_, s3_, s4_, s5_, s6_, s7_, s8_⟩
     go_simp
     with_reducible rfl
    ·simp only [Act.put, pA, pB, pC]
     rfl
    refine pu 7 15 (bq 10 255) ?_ ?_ (fun _ => ?_) ?_ ?_
    rotate_left 2
    ·go_simp
     with_reducible rfl
    ·simp only [Act.put, pA, pB, pC]
     rfl
    refine pu 8 3 (bq 10 511) ?_ ?_ (fun _ => ?_) ?_ ?_
    rotate_left 2
    ·go_simp
     with_reducible rfl
    ·simp only [Act.put, pA, pB, pC]
     rfl
    refine pu 9 4 (bq 10 1023) ?_ ?_ (fun _ => ?_) ?_ ?_
    rotate_left 2
    ·go_simp
     with_reducible rfl
    ·simp only [Act.put, pA, pB, pC]
     rfl
    refine done_ (by kernel_rfl) ?_
    clear hHeld
    obtain ⟨⟨q0, q1, q2, q3, q4, q5, q6, q7, q8⟩, _⟩ := X2.c9
    go_wp2_with (refine wpList_stG rfl 32 (.tmp 2) (.tmp 27) rfl (w.heap.size + 1) _ #[.i c5, .b c6, .u c7, .i c8] BR2 rfl rfl (by kernel_rfl) rfl (by simp [Value.oneCell']) ?_; intro W4 B4 P4; have HB4 := P4.bel HB2 (by omega))
    exact bodyPost_ret (results_cell_row rfl _ _ (w.heap.size + 1) 32 _ (0, 0) _ rfl B4 Tryz.underlying32 rfl (by kernel_rfl)) rfl ⟨rfl, HB4⟩
  ·have k1' : (c1 == 2) = false := beq_eq_false_iff_ne.2 k1
   by_cases k2 : c5 = 2
   ·subst k2
    rw [if_neg (by simp [k1]), if_neg k1, if_pos rfl]
    clear wl wh wa
    have X0 := (Blk.new w 34 #[.b a0, .i a1, .b a2, .u a3, .i a4, .i a5, .b a6, .u a7, .i a8]).alloc (.cells #[.i 0, .b false, .u 0, .i 0] 32)
    have BR0 := Blk.new1 w (.cells #[.b a0, .i a1, .b a2, .u a3, .i a4, .i a5, .b a6, .u a7, .i a8] 34) 32 #[.i 0, .b false, .u 0, .i 0]
    have HB0 := bl_alloc (bl_alloc (Below.refl w.heap.size w) (.cells #[.b a0, .i a1, .b a2, .u a3, .i a4, .i a5, .b a6, .u a7, .i a8] 34)) (.cells #[.i 0, .b false, .u 0, .i 0] 32)
    go_enter Tryz.func78, Tryz.ntmps78
    go_wp2_with (first
     | (go_at_call 29; (refine (HF.out _).mono ?_); rintro e' w1 ⟨rfl, hb⟩; have X1 := X0.call hb; have BR1 := BR0.call hb; have HB1 := bl_trans HB0 hb; clear hb)
     | (refine wpList_stG rfl 34 (.tmp 1) (.tmp 7) rfl w.heap.size _ #[.b false, .i c1, .b c2, .u c3, .i c4, .i 2, .b c6, .u c7, .i c8] X1 rfl rfl (by kernel_rfl) rfl (by simp [Value.oneCell']) ?_; intro W2 X2 P2; have BR2 := P2.blk BR1 (by omega); have HB2 := P2.bel HB1 (Nat.le_refl _)))
    replace X2 := X2.drew
    replace BR2 := BR2.drew
    replace HB2 := bl_drew HB2
    refine start_ (n := 10) (S := fun w' => w'.cell? ⟨w.heap.size, 0, none⟩ = some (.b false) ∧ w'.cell? ⟨w.heap.size, 1, none⟩ = some (.i c1) ∧ w'.cell? ⟨w.heap.size, 2, none⟩ = some (.b c2) ∧ w'.cell? ⟨w.heap.size, 3, none⟩ = some (.u c3) ∧ w'.cell? ⟨w.heap.size, 4, none⟩ = some (.i c4) ∧ w'.cell? ⟨w.heap.size, 5, none⟩ = some (.i 2) ∧ w'.cell? ⟨w.heap.size, 6, none⟩ = some (.b c6) ∧ w'.cell? ⟨w.heap.size, 7, none⟩ = some (.u c7) ∧ w'.cell? ⟨w.heap.size, 8, none⟩ = some (.i c8)) (ds := []) (bq 10 0) (by kernel_rfl) rfl rfl ⟨X2.cell 0, X2.cell 1, X2.cell 2, X2.cell 3, X2.cell 4, X2.cell 5, X2.cell 6, X2.cell 7, X2.cell 8⟩ (fun hHeld => ?_)
    first | generalize W6.drew = W7 at X6 M6 BR6 HB6 hHeld ⊢ | generalize W2.drew = W3 at X2 BR2 HB2 hHeld ⊢
    refine pu 0 8 (bq 10 1) ?_ ?_ (fun _ => ?_) ?_ ?_
    rotate_left 2
    ·go_simp
     with_reducible rfl
    ·simp only [Act.put, pA, pB, pC]
     rfl
    refine pu 1 9 (bq 10 3) ?_ ?_ (fun _ => ?_) ?_ ?_
    rotate_left 2
    ·go_simp
     with_reducible rfl
    ·simp only [Act.put, pA, pB, pC]
     rfl
    refine tk 2 10 (bq 10 7) ?_ ?_ ?_ ?_ hHeld ?_
    rotate_left 2
    ·rintro w' ⟨s0_, s1_, s2_, s3_, s4_, s5_, s6_, s7_, s8_⟩
     go_simp
     with_reducible rfl
    ·simp only [Act.put, pA, pB, pC]
     rfl
    refine pu 3 11 (bq 10 15) ?_ ?_ (fun _ => ?_) ?_ ?_
    rotate_left 2
    ·go_simp
     with_reducible rfl
    ·simp only [Act.put, pA, pB, pC]
     rfl
    refine pu 4 12 (bq 10 31) ?_ ?_ (fun _ => ?_) ?_ ?_
    rotate_left 2
    ·go_simp
     with_reducible rfl
    ·simp only [Act.put, pA, pB, pC]
     rfl
    refine pu 5 13 (bq 10 63) ?_ ?_ (fun _ => ?_) ?_ ?_
    rotate_left 2
    ·go_simp
     with_reducible rfl
    ·simp only [Act.put, pA, pB, pC]
     rfl
    refine tk 6 14 (bq 10 127) ?_ ?_ ?_ ?_ hHeld ?_
    rotate_left 2
    ·rintro w' ⟨s0_, s1_, s2_, s3_, s4_, s5_, s6_, s7_, s8_⟩
     go_simp
     with_reducible rfl
    ·simp only [Act.put, pA, pB, pC]
     rfl
    refine pu 7 15 (bq 10 255) ?_ ?_ (fun _ => ?_) ?_ ?_
    rotate_left 2
    ·go_simp
     with_reducible rfl
    ·simp only [Act.put, pA, pB, pC]
     rfl
    refine pu 8 3 (bq 10 511) ?_ ?_ (fun _ => ?_) ?_ ?_
    rotate_left 2
    ·go_simp
     with_reducible rfl
    ·simp only [Act.put, pA, pB, pC]
     rfl
    refine pu 9 4 (bq 10 1023) ?_ ?_ (fun _ => ?_) ?_ ?_
    rotate_left 2
    ·go_simp
     with_reducible rfl
    ·simp only [Act.put, pA, pB, pC]
     rfl
    refine done_ (by kernel_rfl) ?_
    clear hHeld
    obtain ⟨⟨q0, q1, q2, q3, q4, q5, q6, q7, q8⟩, _⟩ := X2.c9
    go_wp2_with (refine wpList_stG rfl 32 (.tmp 2) (.tmp 31) rfl (w.heap.size + 1) _ #[.i c1, .b c2, .u c3, .i c4] BR2 rfl rfl (by kernel_rfl) rfl (by simp [Value.oneCell']) ?_; intro W4 B4 P4; have HB4 := P4.bel HB2 (by omega))
    exact bodyPost_ret (results_cell_row rfl _ _ (w.heap.size + 1) 32 _ (0, 0) _ rfl B4 Tryz.underlying32 rfl (by kernel_rfl)) rfl ⟨rfl, HB4⟩
   ·rw [if_neg (by simp [k1]), if_neg k1, if_neg k2]
    have k2' : (c5 == 2) = false := beq_eq_false_iff_ne.2 k2
    have HA := Lib.hid (fun W => addN_calls ⟨c1, c2, c3, c4⟩ ⟨c5, c6, c7, c8⟩ wl wh false W)
    have ws := (addN_may wl wh false).2
    generalize addN _ _ _ = s at HA ws ⊢
    obtain ⟨s0, s1, s2, s3⟩ := s
    have HH := Lib.hid (fun W => halfN_calls s0 s1 s2 s3 false ws W)
    generalize halfN _ _ = m at HH ⊢
    obtain ⟨m0, m1, m2, m3⟩ := m
    have HL := Lib.hid (fun A W (h : SlN W W.heap.size A 2 [⟨m0, m1, m2, m3⟩, ⟨c5, c6, c7, c8⟩]) => leastN_calls A 2 2 _ W h (by omega))
    generalize leastN _ = l at HL ⊢
    obtain ⟨l0, l1, l2, l3⟩ := l
    have HO := Lib.hid (fun A W (h : SlN W W.heap.size A 2 [⟨c1, c2, c3, c4⟩, ⟨l0, l1, l2, l3⟩]) => mostN_calls A 2 2 _ W h (by omega))
    generalize mostN _ = r at HO ⊢
    obtain ⟨r0, r1, r2, r3⟩ := r
    dsimp only at HA HH HL HO ⊢
    clear wl wh wa ws
    have X0 := (Blk.new w 34 #[.b a0, .i a1, .b a2, .u a3, .i a4, .i a5, .b a6, .u a7, .i a8]).alloc (.cells #[.i 0, .b false, .u 0, .i 0] 32)
    have BR0 := Blk.new1 w (.cells #[.b a0, .i a1, .b a2, .u a3, .i a4, .i a5, .b a6, .u a7, .i a8] 34) 32 #[.i 0, .b false, .u 0, .i 0]
    have HB0 := bl_alloc (bl_alloc (Below.refl w.heap.size w) (.cells #[.b a0, .i a1, .b a2, .u a3, .i a4, .i a5, .b a6, .u a7, .i a8] 34)) (.cells #[.i 0, .b false, .u 0, .i 0] 32)
    go_enter Tryz.func78, Tryz.ntmps78
    go_wp2_with (first
     | (go_at_call 29; (refine (HF.out _).mono ?_); rintro e' w1 ⟨rfl, hb⟩; have X1 := X0.call hb; have BR1 := BR0.call hb; have HB1 := bl_trans HB0 hb; clear hb)
     | (refine wpList_stG rfl 34 (.tmp 1) (.tmp 7) rfl w.heap.size _ #[.b false, .i c1, .b c2, .u c3, .i c4, .i c5, .b c6, .u c7, .i c8] X1 rfl rfl (by kernel_rfl) rfl (by simp [Value.oneCell']) ?_; intro W2 X2 P2; have BR2 := P2.blk BR1 (by omega); have HB2 := P2.bel HB1 (Nat.le_refl _)))
    replace X2 := X2.drew
    replace BR2 := BR2.drew
    replace HB2 := bl_drew HB2
    refine start_ (n := 10) (S := fun w' => w'.cell? ⟨w.heap.size, 0, none⟩ = some (.b false) ∧ w'.cell? ⟨w.heap.size, 1, none⟩ = some (.i c1) ∧ w'.cell? ⟨w.heap.size, 2, none⟩ = some (.b c2) ∧ w'.cell? ⟨w.heap.size, 3, none⟩ = some (.u c3) ∧ w'.cell? ⟨w.heap.size, 4, none⟩ = some (.i c4) ∧ w'.cell? ⟨w.heap.size, 5, none⟩ = some (.i c5) ∧ w'.cell? ⟨w.heap.size, 6, none⟩ = some (.b c6) ∧ w'.cell? ⟨w.heap.size, 7, none⟩ = some (.u c7) ∧ w'.cell? ⟨w.heap.size, 8, none⟩ = some (.i c8)) (ds := []) (bq 10 0) (by kernel_rfl) rfl rfl ⟨X2.cell 0, X2.cell 1, X2.cell 2, X2.cell 3, X2.cell 4, X2.cell 5, X2.cell 6, X2.cell 7, X2.cell 8⟩ (fun hHeld => ?_)
    first | generalize W6.drew = W7 at X6 M6 BR6 HB6 hHeld ⊢ | generalize W2.drew = W3 at X2 BR2 HB2 hHeld ⊢
    refine pu 0 8 (bq 10 1) ?_ ?_ (fun _ => ?_) ?_ ?_
    rotate_left 2
    ·go_simp
     with_reducible rfl
    ·simp only [Act.put, pA, pB, pC]
     rfl
    refine pu 1 9 (bq 10 3) ?_ ?_ (fun _ => ?_) ?_ ?_
    rotate_left 2
    ·go_simp
     with_reducible rfl
    ·simp only [Act.put, pA, pB, pC]
     rfl
    refine tk 2 10 (bq 10 7) ?_ ?_ ?_ ?_ hHeld ?_
    rotate_left 2
    ·rintro w' ⟨s0_, s1_, s2_, s3_, s4_, s5_, s6_, s7_, s8_⟩
     go_simp
     with_reducible rfl
    ·simp only [Act.put, pA, pB, pC]
     rfl
    refine pu 3 11 (bq 10 15) ?_ ?_ (fun _ => ?_) ?_ ?_
    rotate_left 2
    ·go_simp
     with_reducible rfl
    ·simp only [Act.put, pA, pB, pC]
     rfl
    refine pu 4 12 (bq 10 31) ?_ ?_ (fun _ => ?_) ?_ ?_
    rotate_left 2
    ·go_simp
     with_reducible rfl
    ·simp only [Act.put, pA, pB, pC]
     rfl
    refine pu 5 13 (bq 10 63) ?_ ?_ (fun _ => ?_) ?_ ?_
    rotate_left 2
    ·go_simp
     with_reducible rfl
    ·simp only [Act.put, pA, pB, pC]
     rfl
    refine tk 6 14 (bq 10 127) ?_ ?_ ?_ ?_ hHeld ?_
    rotate_left 2
    ·rintro w' ⟨s0_, s1_, s2_, s3_, s4_, s5_, s6_, s7_, s8_⟩
     go_simp
     with_reducible rfl
    ·simp only [Act.put, pA, pB, pC]
     rfl
    refine pu 7 15 (bq 10 255) ?_ ?_ (fun _ => ?_) ?_ ?_
    rotate_left 2
    ·go_simp
     with_reducible rfl
    ·simp only [Act.put, pA, pB, pC]
     rfl
    refine pu 8 3 (bq 10 511) ?_ ?_ (fun _ => ?_) ?_ ?_
    rotate_left 2
    ·go_simp
     with_reducible rfl
    ·simp only [Act.put, pA, pB, pC]
     rfl
    refine pu 9 4 (bq 10 1023) ?_ ?_ (fun _ => ?_) ?_ ?_
    rotate_left 2
    ·go_simp
     with_reducible rfl
    ·simp only [Act.put, pA, pB, pC]
     rfl
    refine done_ (by kernel_rfl) ?_
    clear hHeld
    obtain ⟨⟨q0, q1, q2, q3, q4, q5, q6, q7, q8⟩, _⟩ := X2.c9
    go_wp2_with (first
     | (go_at_call 74; (refine (HA.out _).mono ?_); rintro e' w4 ⟨rfl, hb⟩; have X4 := X2.call hb; have BR4 := BR2.call hb; have HB4 := bl_trans HB2 hb; clear hb q0 q1 q2 q3 q4 q5 q6 q7 q8)
     | (go_at_call 94; (refine (HH.out _).mono ?_); rintro e' w5 ⟨rfl, hb⟩; have X5 := X4.call hb; have BR5 := BR4.call hb; have HB5 := bl_trans HB4 hb; have hx := X5.lt; have hr := BR5.lt; clear hb)
     | (refine wpList_stG rfl 32 (.tmp 5) (.tmp 37) rfl w5.heap.size _ #[.i m0, .b m1, .u m2, .i m3] (Blk.new w5 _ _) rfl rfl (by kernel_rfl) rfl (by simp [Value.oneCell']) ?_; intro W6 M6 P6; have X6 := P6.blk (X5.alloc _) (by omega); have BR6 := P6.blk (BR5.alloc _) (by omega); have HB6 := P6.bel (bl_alloc HB5 _) (by omega)))
    replace X6 := X6.drew
    replace M6 := M6.drew
    replace BR6 := BR6.drew
    replace HB6 := bl_drew HB6
    refine start_ (n := 10) (S := fun w' => w'.cell? ⟨w.heap.size, 0, none⟩ = some (.b false) ∧ w'.cell? ⟨w.heap.size, 1, none⟩ = some (.i c1) ∧ w'.cell? ⟨w.heap.size, 2, none⟩ = some (.b c2) ∧ w'.cell? ⟨w.heap.size, 3, none⟩ = some (.u c3) ∧ w'.cell? ⟨w.heap.size, 4, none⟩ = some (.i c4) ∧ w'.cell? ⟨w.heap.size, 5, none⟩ = some (.i c5) ∧ w'.cell? ⟨w.heap.size, 6, none⟩ = some (.b c6) ∧ w'.cell? ⟨w.heap.size, 7, none⟩ = some (.u c7) ∧ w'.cell? ⟨w.heap.size, 8, none⟩ = some (.i c8) ∧ w'.cell? ⟨w5.heap.size, 0, none⟩ = some (.i m0) ∧ w'.cell? ⟨w5.heap.size, 1, none⟩ = some (.b m1) ∧ w'.cell? ⟨w5.heap.size, 2, none⟩ = some (.u m2) ∧ w'.cell? ⟨w5.heap.size, 3, none⟩ = some (.i m3)) (ds := [9]) (bq 10 0) (by kernel_rfl) rfl rfl ⟨X6.cell 0, X6.cell 1, X6.cell 2, X6.cell 3, X6.cell 4, X6.cell 5, X6.cell 6, X6.cell 7, X6.cell 8, M6.cell 0, M6.cell 1, M6.cell 2, M6.cell 3⟩ (fun hHeld => ?_)
    first | generalize W6.drew = W7 at X6 M6 BR6 HB6 hHeld ⊢ | generalize W2.drew = W3 at X2 BR2 HB2 hHeld ⊢
    refine pu 0 38 (bq 10 1) ?_ ?_ (fun _ => ?_) ?_ ?_
    rotate_left 2
    ·go_simp
     with_reducible rfl
    ·simp only [Act.put, pA, pB, pC]
     rfl
    refine tk 1 39 (bq 10 3) ?_ ?_ ?_ ?_ hHeld ?_
    rotate_left 2
    ·rintro w' ⟨s0_, s1_, s2_, s3_, s4_, s5_, s6_, s7_, s8_, s9_, s10_, s11_, s12_⟩
     go_simp
     with_reducible rfl
    ·simp only [Act.put, pA, pB, pC]
     rfl
    refine tk 2 40 (bq 10 7) ?_ ?_ ?_ ?_ hHeld ?_
    rotate_left 2
    ·rintro w' ⟨s0_, s1_, s2_, s3_, s4_, s5_, s6_, s7_, s8_, s9_, s10_, s11_, s12_⟩
     go_simp
     with_reducible rfl
    ·simp only [Act.put, pA, pB, pC]
     rfl
    refine pu 3 41 (bq 10 15) ?_ ?_ (fun _ => ?_) ?_ ?_
    rotate_left 2
    ·go_simp
     with_reducible rfl
    ·simp only [Act.put, pA, pB, pC]
     rfl
    refine tk 4 42 (bq 10 31) ?_ ?_ ?_ ?_ hHeld ?_
    rotate_left 2
    ·rintro w' ⟨s0_, s1_, s2_, s3_, s4_, s5_, s6_, s7_, s8_, s9_, s10_, s11_, s12_⟩
     go_simp
     with_reducible rfl
    ·simp only [Act.put, pA, pB, pC]
     rfl
    refine on 5 43 (bq 10 63) (fun K hK => ?_)
    refine value_ (v := ?_) (w1 := ?_) (by rfl) rfl ?_ ?_
    rotate_left 2
    ·go_simp
     first | rfl | (constructor <;> rfl)
    have BL := Blk.new W7 32 #[.i m0, .b m1, .u m2, .i m3, .i c5, .b c6, .u c7, .i c8]
    have X6 := X6.alloc (.cells #[.i m0, .b m1, .u m2, .i m3, .i c5, .b c6, .u c7, .i c8] 32)
    have M6 := M6.alloc (.cells #[.i m0, .b m1, .u m2, .i m3, .i c5, .b c6, .u c7, .i c8] 32)
    have BR6 := BR6.alloc (.cells #[.i m0, .b m1, .u m2, .i m3, .i c5, .b c6, .u c7, .i c8] 32)
    have HB6 := bl_alloc HB6 (.cells #[.i m0, .b m1, .u m2, .i m3, .i c5, .b c6, .u c7, .i c8] 32)
    refine hK.out _ _ ⟨X6.cell 0, X6.cell 1, X6.cell 2, X6.cell 3, X6.cell 4, X6.cell 5, X6.cell 6, X6.cell 7, X6.cell 8, M6.cell 0, M6.cell 1, M6.cell 2, M6.cell 3⟩ (fun hHeld => ?_)
    clear hK K
    refine norm_ (a' := ?_) ?_ ?_
    rotate_left
    ·show Act.put _ (some 43) _ = _
     simp only [Act.put, pA, pB, pC]
     rfl
    refine on 6 44 (bq 10 127) (fun K hK => ?_)
    refine goes_ Tryz.func37 (by kernel_rfl) rfl #[.slice (some ⟨W7.heap.size, 0, none⟩) 2 2] (by first | rfl | go_simp) rfl rfl (by simp only [List.map_toArray, List.map_cons, List.map_nil] <;> rfl) ?_
    with_reducible refine (HL.out _ _ (SlN.two (x := ⟨m0, m1, m2, m3⟩) (y := ⟨c5, c6, c7, c8⟩) BL BL.lt)).mono ?_
    rintro e w8 ⟨rfl, hb⟩
    refine ⟨_, rfl, ?_⟩
    have X6 := X6.call hb
    have M6 := M6.call hb
    have BR6 := BR6.call hb
    have HB6 := bl_trans HB6 hb
    refine hK.out _ _ ⟨X6.cell 0, X6.cell 1, X6.cell 2, X6.cell 3, X6.cell 4, X6.cell 5, X6.cell 6, X6.cell 7, X6.cell 8, M6.cell 0, M6.cell 1, M6.cell 2, M6.cell 3⟩ (fun hHeld => ?_)
    clear hK K hb
    refine norm_ (a' := ?_) ?_ ?_
    rotate_left
    ·show Act.put _ (some 44) _ = _
     simp only [Act.put, pA, pB, pC]
     rfl
    refine on 7 45 (bq 10 255) (fun K hK => ?_)
    refine value_ (v := ?_) (w1 := ?_) (by rfl) rfl ?_ ?_
    rotate_left 2
    ·go_simp
     first | rfl | (constructor <;> rfl)
    have BL := Blk.new w8 32 #[.i c1, .b c2, .u c3, .i c4, .i l0, .b l1, .u l2, .i l3]
    have X6 := X6.alloc (.cells #[.i c1, .b c2, .u c3, .i c4, .i l0, .b l1, .u l2, .i l3] 32)
    have M6 := M6.alloc (.cells #[.i c1, .b c2, .u c3, .i c4, .i l0, .b l1, .u l2, .i l3] 32)
    have BR6 := BR6.alloc (.cells #[.i c1, .b c2, .u c3, .i c4, .i l0, .b l1, .u l2, .i l3] 32)
    have HB6 := bl_alloc HB6 (.cells #[.i c1, .b c2, .u c3, .i c4, .i l0, .b l1, .u l2, .i l3] 32)
    refine hK.out _ _ ⟨X6.cell 0, X6.cell 1, X6.cell 2, X6.cell 3, X6.cell 4, X6.cell 5, X6.cell 6, X6.cell 7, X6.cell 8, M6.cell 0, M6.cell 1, M6.cell 2, M6.cell 3⟩ (fun hHeld => ?_)
    clear hK K
    refine norm_ (a' := ?_) ?_ ?_
    rotate_left
    ·show Act.put _ (some 45) _ = _
     simp only [Act.put, pA, pB, pC]
     rfl
    refine on 8 46 (bq 10 511) (fun K hK => ?_)
    refine goes_ Tryz.func36 (by kernel_rfl) rfl #[.slice (some ⟨w8.heap.size, 0, none⟩) 2 2] (by first | rfl | go_simp) rfl rfl (by simp only [List.map_toArray, List.map_cons, List.map_nil] <;> rfl) ?_
    with_reducible refine (HO.out _ _ (SlN.two (x := ⟨c1, c2, c3, c4⟩) (y := ⟨l0, l1, l2, l3⟩) BL BL.lt)).mono ?_
    rintro e w9 ⟨rfl, hb⟩
    refine ⟨_, rfl, ?_⟩
    have X6 := X6.call hb
    have M6 := M6.call hb
    have BR6 := BR6.call hb
    have HB6 := bl_trans HB6 hb
    refine hK.out _ _ ⟨X6.cell 0, X6.cell 1, X6.cell 2, X6.cell 3, X6.cell 4, X6.cell 5, X6.cell 6, X6.cell 7, X6.cell 8, M6.cell 0, M6.cell 1, M6.cell 2, M6.cell 3⟩ (fun hHeld => ?_)
    clear hK K hb
    refine norm_ (a' := ?_) ?_ ?_
    rotate_left
    ·show Act.put _ (some 46) _ = _
     simp only [Act.put, pA, pB, pC]
     rfl
    obtain ⟨⟨z0, z1, z2, z3⟩, ⟨k0, k1, k2, k3⟩⟩ := BR6.c4
    obtain ⟨W10, hW10, B10, _, hL10, _⟩ := put4 BR6 (.i r0) (.b r1) (.u r2) (.i r3)
    have HB10 := hL10 w HB6 (by omega)
    refine last_ (i := 9) (N := none) (bq 10 1023) rfl rfl (by kernel_rfl) (by decide) (fun K hK => ?_)
    refine skip_ (w1 := ?_) (by rfl) rfl ?_ ?_
    rotate_left
    ·go_simp
     rfl
    refine hK.out _ _ ?_
    clear hK K
    refine done_ (by kernel_rfl) ?_
    clear hHeld X6 M6 HB6
    go_wp2
    exact bodyPost_ret (results_cell_row rfl _ _ (w.heap.size + 1) 32 _ (0, 0) _ rfl B10 Tryz.underlying32 rfl (by kernel_rfl)) rfl ⟨rfl, HB10⟩
 ·rw [if_pos (.inl rfl)]
  clear wl wh wa
  have X0 := (Blk.new w 34 #[.b a0, .i a1, .b a2, .u a3, .i a4, .i a5, .b a6, .u a7, .i a8]).alloc (.cells #[.i 0, .b false, .u 0, .i 0] 32)
  have BR0 := Blk.new1 w (.cells #[.b a0, .i a1, .b a2, .u a3, .i a4, .i a5, .b a6, .u a7, .i a8] 34) 32 #[.i 0, .b false, .u 0, .i 0]
  have HB0 := bl_alloc (bl_alloc (Below.refl w.heap.size w) (.cells #[.b a0, .i a1, .b a2, .u a3, .i a4, .i a5, .b a6, .u a7, .i a8] 34)) (.cells #[.i 0, .b false, .u 0, .i 0] 32)
  go_enter Tryz.func78, Tryz.ntmps78
  go_wp2_with (first
   | (go_at_call 29; (refine (HF.out _).mono ?_); rintro e' w1 ⟨rfl, hb⟩; have X1 := X0.call hb; have BR1 := BR0.call hb; have HB1 := bl_trans HB0 hb; clear hb)
   | (refine wpList_stG rfl 34 (.tmp 1) (.tmp 7) rfl w.heap.size _ #[.b true, .i c1, .b c2, .u c3, .i c4, .i c5, .b c6, .u c7, .i c8] X1 rfl rfl (by kernel_rfl) rfl (by simp [Value.oneCell']) ?_; intro W2 X2 P2; have BR2 := P2.blk BR1 (by omega); have HB2 := P2.bel HB1 (Nat.le_refl _)))
  replace X2 := X2.drew
  replace BR2 := BR2.drew
  replace HB2 := bl_drew HB2
  refine start_ (n := 10) (S := fun w' => w'.cell? ⟨w.heap.size, 0, none⟩ = some (.b true) ∧ w'.cell? ⟨w.heap.size, 1, none⟩ = some (.i c1) ∧ w'.cell? ⟨w.heap.size, 2, none⟩ = some (.b c2) ∧ w'.cell? ⟨w.heap.size, 3, none⟩ = some (.u c3) ∧ w'.cell? ⟨w.heap.size, 4, none⟩ = some (.i c4) ∧ w'.cell? ⟨w.heap.size, 5, none⟩ = some (.i c5) ∧ w'.cell? ⟨w.heap.size, 6, none⟩ = some (.b c6) ∧ w'.cell? ⟨w.heap.size, 7, none⟩ = some (.u c7) ∧ w'.cell? ⟨w.heap.size, 8, none⟩ = some (.i c8)) (ds := []) (bq 10 0) (by kernel_rfl) rfl rfl ⟨X2.cell 0, X2.cell 1, X2.cell 2, X2.cell 3, X2.cell 4, X2.cell 5, X2.cell 6, X2.cell 7, X2.cell 8⟩ (fun hHeld => ?_)
  first | generalize W6.drew = W7 at X6 M6 BR6 HB6 hHeld ⊢ | generalize W2.drew = W3 at X2 BR2 HB2 hHeld ⊢
  refine pu 0 8 (bq 10 1) ?_ ?_ (fun _ => ?_) ?_ ?_
  rotate_left 2
  ·go_simp
   with_reducible rfl
  ·simp only [Act.put, pA, pB, pC]
   rfl
  refine pu 1 9 (bq 10 3) ?_ ?_ (fun _ => ?_) ?_ ?_
  rotate_left 2
  ·go_simp
   with_reducible rfl
  ·simp only [Act.put, pA, pB, pC]
   rfl
  refine tk 2 10 (bq 10 7) ?_ ?_ ?_ ?_ hHeld ?_
  rotate_left 2
  ·rintro w' ⟨s0_, s1_, s2_, s3_, s4_, s5_, s6_, s7_, s8_⟩
   go_simp
   with_reducible rfl
  ·simp only [Act.put, pA, pB, pC]
   rfl
  refine pu 3 11 (bq 10 15) ?_ ?_ (fun _ => ?_) ?_ ?_
  rotate_left 2
  ·go_simp
   with_reducible rfl
  ·simp only [Act.put, pA, pB, pC]
   rfl
  refine pu 4 12 (bq 10 31) ?_ ?_ (fun _ => ?_) ?_ ?_
  rotate_left 2
  ·go_simp
   with_reducible rfl
  ·simp only [Act.put, pA, pB, pC]
   rfl
  refine pu 5 13 (bq 10 63) ?_ ?_ (fun _ => ?_) ?_ ?_
  rotate_left 2
  ·go_simp
   with_reducible rfl
  ·simp only [Act.put, pA, pB, pC]
   rfl
  refine tk 6 14 (bq 10 127) ?_ ?_ ?_ ?_ hHeld ?_
  rotate_left 2
  ·rintro w' ⟨s0_, s1_, s2_, s3_, s4_, s5_, s6_, s7_, s8_⟩
   go_simp
   with_reducible rfl
  ·simp only [Act.put, pA, pB, pC]
   rfl
  refine pu 7 15 (bq 10 255) ?_ ?_ (fun _ => ?_) ?_ ?_
  rotate_left 2
  ·go_simp
   with_reducible rfl
  ·simp only [Act.put, pA, pB, pC]
   rfl
  refine pu 8 3 (bq 10 511) ?_ ?_ (fun _ => ?_) ?_ ?_
  rotate_left 2
  ·go_simp
   with_reducible rfl
  ·simp only [Act.put, pA, pB, pC]
   rfl
  refine pu 9 4 (bq 10 1023) ?_ ?_ (fun _ => ?_) ?_ ?_
  rotate_left 2
  ·go_simp
   with_reducible rfl
  ·simp only [Act.put, pA, pB, pC]
   rfl
  refine done_ (by kernel_rfl) ?_
  clear hHeld
  obtain ⟨⟨q0, q1, q2, q3, q4, q5, q6, q7, q8⟩, _⟩ := X2.c9
  go_wp2_with (refine wpList_stG rfl 32 (.tmp 2) (.tmp 23) rfl (w.heap.size + 1) _ #[.i 0, .b false, .u 0, .i 0] BR2 rfl rfl (by kernel_rfl) rfl (by simp [Value.oneCell']) ?_; intro W4 B4 P4; have HB4 := P4.bel HB2 (by omega))
  exact bodyPost_ret (results_cell_row rfl _ _ (w.heap.size + 1) 32 _ (0, 0) _ rfl B4 Tryz.underlying32 rfl (by kernel_rfl)) rfl ⟨rfl, HB4⟩
end Go.Proofs.YteabdeohhmbclaaGreat.Wk
