/- Walks: iv.Width, iv.Split, iv.Inflate. -/
import Derived.Test.YteabdeohhmbclaaGreatArXy
namespace Go.Proofs.YteabdeohhmbclaaGreat.Wk
open Go.RowKit Go.Proofs.Pl Go.Proofs.YteabdeohhmbclaaGreatW.PrintLast
set_option linter.unusedSimpArgs false
set_option linter.unusedVariables false

set_option maxRecDepth 100000 in
set_option maxHeartbeats 4000000 in
theorem widthI_calls (a0 : Bool) (a1 : Int) (a2 : Bool) (a3 a4 a5 : Int) (a6 : Bool) (a7 a8 : Int) (wa : WfIv ⟨a0, ⟨a1, a2, a3, a4⟩, ⟨a5, a6, a7, a8⟩⟩) (w : World) :
  Calls Tryz.prog 60 #[.agg #[.b a0, .i a1, .b a2, .u a3, .i a4, .i a5, .b a6, .u a7, .i a8]] w fun e w' => e = .returned (.agg #[.i (widthI ⟨a0, ⟨a1, a2, a3, a4⟩, ⟨a5, a6, a7, a8⟩⟩).k, .b (widthI ⟨a0, ⟨a1, a2, a3, a4⟩, ⟨a5, a6, a7, a8⟩⟩).n, .u (widthI ⟨a0, ⟨a1, a2, a3, a4⟩, ⟨a5, a6, a7, a8⟩⟩).m, .i (widthI ⟨a0, ⟨a1, a2, a3, a4⟩, ⟨a5, a6, a7, a8⟩⟩).e]) ∧ Below w.heap.size w w' := by
 have HF := Lib.hid (fun W => fairI_calls a0 a1 a2 a3 a4 a5 a6 a7 a8 W)
 have wf := fairI_wf wa
 unfold widthI
 generalize fairI ⟨a0, ⟨a1, a2, a3, a4⟩, ⟨a5, a6, a7, a8⟩⟩ = c at HF wf ⊢
 obtain ⟨c0, ⟨c1, c2, c3, c4⟩, ⟨c5, c6, c7, c8⟩⟩ := c
 obtain ⟨wl, wh⟩ := wf
 dsimp only at HF wl wh ⊢
 have HS := Lib.hid (fun W => subN_calls c5 c6 c7 c8 c1 c2 c3 c4 true wh wl W)
 generalize subN _ _ _ = r at HS ⊢
 clear wl wh wa
 have X0 := (Blk.new w 34 #[.b a0, .i a1, .b a2, .u a3, .i a4, .i a5, .b a6, .u a7, .i a8]).alloc (.cells #[.i 0, .b false, .u 0, .i 0] 32)
 have BR0 := Blk.new1 w (.cells #[.b a0, .i a1, .b a2, .u a3, .i a4, .i a5, .b a6, .u a7, .i a8] 34) 32 #[.i 0, .b false, .u 0, .i 0]
 have HB0 := bl_alloc (bl_alloc (Below.refl w.heap.size w) (.cells #[.b a0, .i a1, .b a2, .u a3, .i a4, .i a5, .b a6, .u a7, .i a8] 34)) (.cells #[.i 0, .b false, .u 0, .i 0] 32)
 go_enter Tryz.func60, Tryz.ntmps60
 go_wp2_with (first
  | (go_at_call 29; (refine (HF.out _).mono ?_); rintro e' w1 ⟨rfl, hb⟩; have X1 := X0.call hb; have BR1 := BR0.call hb; have HB1 := bl_trans HB0 hb; clear hb)
  | (refine wpList_stG rfl 34 (.tmp 1) (.tmp 4) rfl w.heap.size _ #[.b c0, .i c1, .b c2, .u c3, .i c4, .i c5, .b c6, .u c7, .i c8] X1 rfl rfl (by kernel_rfl) rfl (by simp [Value.oneCell']) ?_; intro W2 X2 P2; have BR2 := P2.blk BR1 (by omega); have HB2 := P2.bel HB1 (Nat.le_refl _); obtain ⟨⟨q0, q1, q2, q3, q4, q5, q6, q7, q8⟩, _⟩ := X2.c9)
  | (go_at_call 58; (refine (HS.out _).mono ?_); rintro e' w3 ⟨rfl, hb⟩; have BR3 := BR2.call hb; have HB3 := bl_trans HB2 hb; clear hb)
  | (refine wpList_stG rfl 32 (.tmp 2) (.tmp 9) rfl (w.heap.size + 1) _ #[.i r.k, .b r.n, .u r.m, .i r.e] BR3 rfl rfl (by kernel_rfl) rfl (by simp [Value.oneCell']) ?_; intro W4 B4 P4; have HB4 := P4.bel HB3 (by omega)))
 exact bodyPost_ret (results_cell_row rfl _ _ (w.heap.size + 1) 32 _ (0, 0) _ rfl B4 Tryz.underlying32 rfl (by kernel_rfl)) rfl ⟨rfl, HB4⟩

set_option maxRecDepth 100000 in
set_option maxHeartbeats 8000000 in
theorem splitI_calls (a0 : Bool) (a1 : Int) (a2 : Bool) (a3 a4 a5 : Int) (a6 : Bool) (a7 a8 : Int) (wa : WfIv ⟨a0, ⟨a1, a2, a3, a4⟩, ⟨a5, a6, a7, a8⟩⟩) (w : World) :
  Calls Tryz.prog 62 #[.agg #[.b a0, .i a1, .b a2, .u a3, .i a4, .i a5, .b a6, .u a7, .i a8]] w fun e w' => e = .returned (.tuple #[.agg #[.b (splitA ⟨a0, ⟨a1, a2, a3, a4⟩, ⟨a5, a6, a7, a8⟩⟩).emp, .i ((splitA ⟨a0, ⟨a1, a2, a3, a4⟩, ⟨a5, a6, a7, a8⟩⟩).lo).k, .b ((splitA ⟨a0, ⟨a1, a2, a3, a4⟩, ⟨a5, a6, a7, a8⟩⟩).lo).n, .u ((splitA ⟨a0, ⟨a1, a2, a3, a4⟩, ⟨a5, a6, a7, a8⟩⟩).lo).m, .i ((splitA ⟨a0, ⟨a1, a2, a3, a4⟩, ⟨a5, a6, a7, a8⟩⟩).lo).e, .i ((splitA ⟨a0, ⟨a1, a2, a3, a4⟩, ⟨a5, a6, a7, a8⟩⟩).hi).k, .b ((splitA ⟨a0, ⟨a1, a2, a3, a4⟩, ⟨a5, a6, a7, a8⟩⟩).hi).n, .u ((splitA ⟨a0, ⟨a1, a2, a3, a4⟩, ⟨a5, a6, a7, a8⟩⟩).hi).m, .i ((splitA ⟨a0, ⟨a1, a2, a3, a4⟩, ⟨a5, a6, a7, a8⟩⟩).hi).e], .agg #[.b (splitB ⟨a0, ⟨a1, a2, a3, a4⟩, ⟨a5, a6, a7, a8⟩⟩).emp, .i ((splitB ⟨a0, ⟨a1, a2, a3, a4⟩, ⟨a5, a6, a7, a8⟩⟩).lo).k, .b ((splitB ⟨a0, ⟨a1, a2, a3, a4⟩, ⟨a5, a6, a7, a8⟩⟩).lo).n, .u ((splitB ⟨a0, ⟨a1, a2, a3, a4⟩, ⟨a5, a6, a7, a8⟩⟩).lo).m, .i ((splitB ⟨a0, ⟨a1, a2, a3, a4⟩, ⟨a5, a6, a7, a8⟩⟩).lo).e, .i ((splitB ⟨a0, ⟨a1, a2, a3, a4⟩, ⟨a5, a6, a7, a8⟩⟩).hi).k, .b ((splitB ⟨a0, ⟨a1, a2, a3, a4⟩, ⟨a5, a6, a7, a8⟩⟩).hi).n, .u ((splitB ⟨a0, ⟨a1, a2, a3, a4⟩, ⟨a5, a6, a7, a8⟩⟩).hi).m, .i ((splitB ⟨a0, ⟨a1, a2, a3, a4⟩, ⟨a5, a6, a7, a8⟩⟩).hi).e]]) ∧ Below w.heap.size w w' := by
 have HF := Lib.hid (fun W => fairI_calls a0 a1 a2 a3 a4 a5 a6 a7 a8 W)
 have wf := fairI_wf wa
 unfold splitA splitB
 generalize fairI ⟨a0, ⟨a1, a2, a3, a4⟩, ⟨a5, a6, a7, a8⟩⟩ = c at HF wf ⊢
 obtain ⟨c0, ⟨c1, c2, c3, c4⟩, ⟨c5, c6, c7, c8⟩⟩ := c
 dsimp only at HF ⊢
 cases c0
 ·have HM := Lib.hid (fun W => midI_calls false c1 c2 c3 c4 c5 c6 c7 c8 wf W)
  generalize midI _ = m at HM ⊢
  obtain ⟨m0, m1, m2, m3⟩ := m
  have HMA := Lib.hid (fun W => makeI_calls c1 c2 c3 c4 m0 m1 m2 m3 W)
  have HMB := Lib.hid (fun W => makeI_calls m0 m1 m2 m3 c5 c6 c7 c8 W)
  generalize makeI ⟨c1, c2, c3, c4⟩ ⟨m0, m1, m2, m3⟩ = p at HMA ⊢
  generalize makeI ⟨m0, m1, m2, m3⟩ ⟨c5, c6, c7, c8⟩ = s at HMB ⊢
  obtain ⟨p0, ⟨p1, p2, p3, p4⟩, ⟨p5, p6, p7, p8⟩⟩ := p
  obtain ⟨s0, ⟨s1, s2, s3, s4⟩, ⟨s5, s6, s7, s8⟩⟩ := s
  simp only [Bool.false_eq_true, if_false]
  dsimp only at HM HMA HMB
  clear wf wa
  have X0 := ((Blk.new w 34 #[.b a0, .i a1, .b a2, .u a3, .i a4, .i a5, .b a6, .u a7, .i a8]).alloc (.cells #[.b false, .i 0, .b false, .u 0, .i 0, .i 0, .b false, .u 0, .i 0] 34)).alloc (.cells #[.b false, .i 0, .b false, .u 0, .i 0, .i 0, .b false, .u 0, .i 0] 34)
  have L0 := (Blk.new1 w (.cells #[.b a0, .i a1, .b a2, .u a3, .i a4, .i a5, .b a6, .u a7, .i a8] 34) 34 #[.b false, .i 0, .b false, .u 0, .i 0, .i 0, .b false, .u 0, .i 0]).alloc (.cells #[.b false, .i 0, .b false, .u 0, .i 0, .i 0, .b false, .u 0, .i 0] 34)
  have H0 := Blk.new2 w (.cells #[.b a0, .i a1, .b a2, .u a3, .i a4, .i a5, .b a6, .u a7, .i a8] 34) (.cells #[.b false, .i 0, .b false, .u 0, .i 0, .i 0, .b false, .u 0, .i 0] 34) 34 #[.b false, .i 0, .b false, .u 0, .i 0, .i 0, .b false, .u 0, .i 0]
  have HB0 := bl_alloc (bl_alloc (bl_alloc (Below.refl w.heap.size w) (.cells #[.b a0, .i a1, .b a2, .u a3, .i a4, .i a5, .b a6, .u a7, .i a8] 34)) (.cells #[.b false, .i 0, .b false, .u 0, .i 0, .i 0, .b false, .u 0, .i 0] 34)) (.cells #[.b false, .i 0, .b false, .u 0, .i 0, .i 0, .b false, .u 0, .i 0] 34)
  go_enter Tryz.func62, Tryz.ntmps62
  go_wp2_with (first
   | (go_at_call 29; (refine (HF.out _).mono ?_); rintro e' w1 ⟨rfl, hb⟩; have X1 := X0.call hb; have L1 := L0.call hb; have H1 := H0.call hb; have HB1 := bl_trans HB0 hb; clear hb)
   | (refine wpList_stG rfl 34 (.tmp 1) (.tmp 6) rfl w.heap.size _ #[.b false, .i c1, .b c2, .u c3, .i c4, .i c5, .b c6, .u c7, .i c8] X1 rfl rfl (by kernel_rfl) rfl (by simp [Value.oneCell']) ?_; intro W2 X2 P2; have L2 := P2.blk L1 (by omega); have H2 := P2.blk H1 (by omega); have HB2 := P2.bel HB1 (Nat.le_refl _); have hx := X2.lt; have hl := L2.lt; have hh := H2.lt; obtain ⟨⟨q0, q1, q2, q3, q4, q5, q6, q7, q8⟩, _⟩ := X2.c9)
   )
  go_wp2_with (first
   | (go_at_call 78; (refine (HM.out _).mono ?_); rintro e' w4 ⟨rfl, hb⟩; have X4 := X2.call hb; have L4 := L2.call hb; have H4 := H2.call hb; have HB4 := bl_trans HB2 hb; have hx4 := X4.lt; have hl4 := L4.lt; have hh4 := H4.lt; clear hb q0 q1 q2 q3 q4 q5 q6 q7 q8)
   | (refine wpList_stG rfl 32 (.tmp 4) (.tmp 12) rfl w4.heap.size _ #[.i m0, .b m1, .u m2, .i m3] (Blk.new w4 _ _) rfl rfl (by kernel_rfl) rfl (by simp [Value.oneCell']) ?_; intro W5 M5 P5; have X5 := P5.blk (X4.alloc _) (by omega); have L5 := P5.blk (L4.alloc _) (by omega); have H5 := P5.blk (H4.alloc _) (by omega); have HB5 := P5.bel (bl_alloc HB4 _) (by omega)))
  replace X5 := X5.drew
  replace L5 := L5.drew
  replace H5 := H5.drew
  replace M5 := M5.drew
  replace HB5 := bl_drew HB5
  refine start_ (n := 10) (S := fun w' => w'.cell? ⟨w.heap.size, 0, none⟩ = some (.b false) ∧ w'.cell? ⟨w.heap.size, 1, none⟩ = some (.i c1) ∧ w'.cell? ⟨w.heap.size, 2, none⟩ = some (.b c2) ∧ w'.cell? ⟨w.heap.size, 3, none⟩ = some (.u c3) ∧ w'.cell? ⟨w.heap.size, 4, none⟩ = some (.i c4) ∧ w'.cell? ⟨w.heap.size, 5, none⟩ = some (.i c5) ∧ w'.cell? ⟨w.heap.size, 6, none⟩ = some (.b c6) ∧ w'.cell? ⟨w.heap.size, 7, none⟩ = some (.u c7) ∧ w'.cell? ⟨w.heap.size, 8, none⟩ = some (.i c8) ∧ w'.cell? ⟨w4.heap.size, 0, none⟩ = some (.i m0) ∧ w'.cell? ⟨w4.heap.size, 1, none⟩ = some (.b m1) ∧ w'.cell? ⟨w4.heap.size, 2, none⟩ = some (.u m2) ∧ w'.cell? ⟨w4.heap.size, 3, none⟩ = some (.i m3)) (ds := [8,9]) (bq 10 0) (by kernel_rfl) rfl rfl ⟨X5.cell 0, X5.cell 1, X5.cell 2, X5.cell 3, X5.cell 4, X5.cell 5, X5.cell 6, X5.cell 7, X5.cell 8, M5.cell 0, M5.cell 1, M5.cell 2, M5.cell 3⟩ (fun hHeld => ?_)
  first | generalize W5.drew = W6 at X5 L5 H5 M5 HB5 hHeld ⊢ | generalize W2.drew = W3 at X2 L2 H2 HB2 hHeld ⊢ | generalize w4.drew = W5 at X4 A4 BR4 HB4 hHeld ⊢
  refine pu 0 13 (bq 10 1) ?_ ?_ (fun _ => ?_) ?_ ?_
  rotate_left 2
  ·go_simp
   with_reducible rfl
  ·simp only [Act.put, pA, pB, pC]
   rfl
  refine tk 1 14 (bq 10 3) ?_ ?_ ?_ ?_ hHeld ?_
  rotate_left 2
  ·rintro w' ⟨s0_, s1_, s2_, s3_, s4_, s5_, s6_, s7_, s8_, s9_, s10_, s11_, s12_⟩
   go_simp
   with_reducible rfl
  ·simp only [Act.put, pA, pB, pC]
   rfl
  refine tk 2 15 (bq 10 7) ?_ ?_ ?_ ?_ hHeld ?_
  rotate_left 2
  ·rintro w' ⟨s0_, s1_, s2_, s3_, s4_, s5_, s6_, s7_, s8_, s9_, s10_, s11_, s12_⟩
   go_simp
   with_reducible rfl
  ·simp only [Act.put, pA, pB, pC]
   rfl
  refine tk 4 17 (bq 10 23) ?_ ?_ ?_ ?_ hHeld ?_
  rotate_left 2
  ·rintro w' ⟨s0_, s1_, s2_, s3_, s4_, s5_, s6_, s7_, s8_, s9_, s10_, s11_, s12_⟩
   go_simp
   with_reducible rfl
  ·simp only [Act.put, pA, pB, pC]
   rfl
  refine pu 5 18 (bq 10 55) ?_ ?_ (fun _ => ?_) ?_ ?_
  rotate_left 2
  ·go_simp
   with_reducible rfl
  ·simp only [Act.put, pA, pB, pC]
   rfl
  refine tk 6 19 (bq 10 119) ?_ ?_ ?_ ?_ hHeld ?_
  rotate_left 2
  ·rintro w' ⟨s0_, s1_, s2_, s3_, s4_, s5_, s6_, s7_, s8_, s9_, s10_, s11_, s12_⟩
   go_simp
   with_reducible rfl
  ·simp only [Act.put, pA, pB, pC]
   rfl
  refine on 3 16 (bq 10 127) (fun K hK => ?_)
  refine goes_ Tryz.func16 (by kernel_rfl) rfl #[.agg #[.i c1, .b c2, .u c3, .i c4], .agg #[.i m0, .b m1, .u m2, .i m3]] (by first | rfl | go_simp) rfl rfl (by simp only [List.map_toArray, List.map_cons, List.map_nil] <;> rfl) ?_
  with_reducible refine (HMA.out _).mono ?_
  rintro e w7 ⟨rfl, hb⟩
  refine ⟨_, rfl, ?_⟩
  have X5 := X5.call hb
  have L5 := L5.call hb
  have H5 := H5.call hb
  have M5 := M5.call hb
  have HB5 := bl_trans HB5 hb
  refine hK.out _ _ ⟨X5.cell 0, X5.cell 1, X5.cell 2, X5.cell 3, X5.cell 4, X5.cell 5, X5.cell 6, X5.cell 7, X5.cell 8, M5.cell 0, M5.cell 1, M5.cell 2, M5.cell 3⟩ (fun hHeld => ?_)
  clear hK K hb
  refine norm_ (a' := ?_) ?_ ?_
  rotate_left
  ·show Act.put _ (some 16) _ = _
   simp only [Act.put, pA, pB, pC]
   rfl
  refine on 7 20 (bq 10 255) (fun K hK => ?_)
  refine goes_ Tryz.func16 (by kernel_rfl) rfl #[.agg #[.i m0, .b m1, .u m2, .i m3], .agg #[.i c5, .b c6, .u c7, .i c8]] (by first | rfl | go_simp) rfl rfl (by simp only [List.map_toArray, List.map_cons, List.map_nil] <;> rfl) ?_
  with_reducible refine (HMB.out _).mono ?_
  rintro e w8 ⟨rfl, hb⟩
  refine ⟨_, rfl, ?_⟩
  have X5 := X5.call hb
  have L5 := L5.call hb
  have H5 := H5.call hb
  have M5 := M5.call hb
  have HB5 := bl_trans HB5 hb
  refine hK.out _ _ ⟨X5.cell 0, X5.cell 1, X5.cell 2, X5.cell 3, X5.cell 4, X5.cell 5, X5.cell 6, X5.cell 7, X5.cell 8, M5.cell 0, M5.cell 1, M5.cell 2, M5.cell 3⟩ (fun hHeld => ?_)
  clear hK K hb
  refine norm_ (a' := ?_) ?_ ?_
  rotate_left
  ·show Act.put _ (some 20) _ = _
   simp only [Act.put, pA, pB, pC]
   rfl
  obtain ⟨⟨z0, z1, z2, z3, z4, z5, z6, z7, z8⟩, ⟨k0, k1, k2, k3, k4, k5, k6, k7, k8⟩⟩ := L5.c9
  obtain ⟨W9, hW9, L9, hK9, hL9, _⟩ := put9 L5 (.b p0) (.i p1) (.b p2) (.u p3) (.i p4) (.i p5) (.b p6) (.u p7) (.i p8)
  have H9 := hK9 _ _ _ (by omega) H5
  have HB9 := hL9 w HB5 (by omega)
  refine last_ (i := 8) (N := none) (bq 10 511) rfl rfl (by kernel_rfl) (by decide) (fun K hK => ?_)
  refine skip_ (w1 := ?_) (by rfl) rfl ?_ ?_
  rotate_left
  ·go_simp
   rfl
  refine hK.out _ _ ?_
  clear hK K
  try rw [hW9]
  clear z0 z1 z2 z3 z4 z5 z6 z7 z8 k0 k1 k2 k3 k4 k5 k6 k7 k8 hW9 hK9 hL9
  obtain ⟨⟨z0, z1, z2, z3, z4, z5, z6, z7, z8⟩, ⟨k0, k1, k2, k3, k4, k5, k6, k7, k8⟩⟩ := H9.c9
  obtain ⟨W10, hW10, H10, hK10, hL10, _⟩ := put9 H9 (.b s0) (.i s1) (.b s2) (.u s3) (.i s4) (.i s5) (.b s6) (.u s7) (.i s8)
  have L10 := hK10 _ _ _ (by omega) L9
  have HB10 := hL10 w HB9 (by omega)
  refine last_ (i := 9) (N := none) (bq 10 1023) rfl rfl (by kernel_rfl) (by decide) (fun K hK => ?_)
  refine skip_ (w1 := ?_) (by rfl) rfl ?_ ?_
  rotate_left
  ·go_simp
   rfl
  refine hK.out _ _ ?_
  clear hK K
  refine done_ (by kernel_rfl) ?_
  clear hHeld X5 M5 HB5 H5 L5 L9 H9 HB9
  clear z0 z1 z2 z3 z4 z5 z6 z7 z8 k0 k1 k2 k3 k4 k5 k6 k7 k8 hK10 hL10
  go_wp2
  obtain ⟨⟨l0, l1, l2, l3, l4, l5, l6, l7, l8⟩, _⟩ := L10.c9
  obtain ⟨⟨h0, h1, h2, h3, h4, h5, h6, h7, h8⟩, _⟩ := H10.c9
  exact bodyPost_ret (v := .tuple #[.agg #[.b p0, .i p1, .b p2, .u p3, .i p4, .i p5, .b p6, .u p7, .i p8], .agg #[.b s0, .i s1, .b s2, .u s3, .i s4, .i s5, .b s6, .u s7, .i s8]]) (by simp [results, Tryz.results62, go_sem, l0, l1, l2, l3, l4, l5, l6, l7, l8, h0, h1, h2, h3, h4, h5, h6, h7, h8]) rfl ⟨rfl, HB10⟩
 ·simp only [if_true]
  clear wf wa
  have X0 := ((Blk.new w 34 #[.b a0, .i a1, .b a2, .u a3, .i a4, .i a5, .b a6, .u a7, .i a8]).alloc (.cells #[.b false, .i 0, .b false, .u 0, .i 0, .i 0, .b false, .u 0, .i 0] 34)).alloc (.cells #[.b false, .i 0, .b false, .u 0, .i 0, .i 0, .b false, .u 0, .i 0] 34)
  have L0 := (Blk.new1 w (.cells #[.b a0, .i a1, .b a2, .u a3, .i a4, .i a5, .b a6, .u a7, .i a8] 34) 34 #[.b false, .i 0, .b false, .u 0, .i 0, .i 0, .b false, .u 0, .i 0]).alloc (.cells #[.b false, .i 0, .b false, .u 0, .i 0, .i 0, .b false, .u 0, .i 0] 34)
  have H0 := Blk.new2 w (.cells #[.b a0, .i a1, .b a2, .u a3, .i a4, .i a5, .b a6, .u a7, .i a8] 34) (.cells #[.b false, .i 0, .b false, .u 0, .i 0, .i 0, .b false, .u 0, .i 0] 34) 34 #[.b false, .i 0, .b false, .u 0, .i 0, .i 0, .b false, .u 0, .i 0]
  have HB0 := bl_alloc (bl_alloc (bl_alloc (Below.refl w.heap.size w) (.cells #[.b a0, .i a1, .b a2, .u a3, .i a4, .i a5, .b a6, .u a7, .i a8] 34)) (.cells #[.b false, .i 0, .b false, .u 0, .i 0, .i 0, .b false, .u 0, .i 0] 34)) (.cells #[.b false, .i 0, .b false, .u 0, .i 0, .i 0, .b false, .u 0, .i 0] 34)
  go_enter Tryz.func62, Tryz.ntmps62
  go_wp2_with (first
   | (go_at_call 29; (refine (HF.out _).mono ?_); rintro e' w1 ⟨rfl, hb⟩; have X1 := X0.call hb; have L1 := L0.call hb; have H1 := H0.call hb; have HB1 := bl_trans HB0 hb; clear hb)
   | (refine wpList_stG rfl 34 (.tmp 1) (.tmp 6) rfl w.heap.size _ #[.b true, .i c1, .b c2, .u c3, .i c4, .i c5, .b c6, .u c7, .i c8] X1 rfl rfl (by kernel_rfl) rfl (by simp [Value.oneCell']) ?_; intro W2 X2 P2; have L2 := P2.blk L1 (by omega); have H2 := P2.blk H1 (by omega); have HB2 := P2.bel HB1 (Nat.le_refl _); have hx := X2.lt; have hl := L2.lt; have hh := H2.lt; obtain ⟨⟨q0, q1, q2, q3, q4, q5, q6, q7, q8⟩, _⟩ := X2.c9)
   )
  replace X2 := X2.drew
  replace L2 := L2.drew
  replace H2 := H2.drew
  replace HB2 := bl_drew HB2
  refine start_ (n := 4) (S := fun w' => w'.cell? ⟨w.heap.size, 0, none⟩ = some (.b true) ∧ w'.cell? ⟨w.heap.size, 1, none⟩ = some (.i c1) ∧ w'.cell? ⟨w.heap.size, 2, none⟩ = some (.b c2) ∧ w'.cell? ⟨w.heap.size, 3, none⟩ = some (.u c3) ∧ w'.cell? ⟨w.heap.size, 4, none⟩ = some (.i c4) ∧ w'.cell? ⟨w.heap.size, 5, none⟩ = some (.i c5) ∧ w'.cell? ⟨w.heap.size, 6, none⟩ = some (.b c6) ∧ w'.cell? ⟨w.heap.size, 7, none⟩ = some (.u c7) ∧ w'.cell? ⟨w.heap.size, 8, none⟩ = some (.i c8)) (ds := [3]) (bq 4 0) (by kernel_rfl) rfl rfl ⟨X2.cell 0, X2.cell 1, X2.cell 2, X2.cell 3, X2.cell 4, X2.cell 5, X2.cell 6, X2.cell 7, X2.cell 8⟩ (fun hHeld => ?_)
  first | generalize W5.drew = W6 at X5 L5 H5 M5 HB5 hHeld ⊢ | generalize W2.drew = W3 at X2 L2 H2 HB2 hHeld ⊢ | generalize w4.drew = W5 at X4 A4 BR4 HB4 hHeld ⊢
  refine tk 0 9 (bq 4 1) ?_ ?_ ?_ ?_ hHeld ?_
  rotate_left 2
  ·rintro w' ⟨s0_, s1_, s2_, s3_, s4_, s5_, s6_, s7_, s8_⟩
   go_simp
   with_reducible rfl
  ·simp only [Act.put, pA, pB, pC]
   rfl
  refine tk 1 10 (bq 4 3) ?_ ?_ ?_ ?_ hHeld ?_
  rotate_left 2
  ·rintro w' ⟨s0_, s1_, s2_, s3_, s4_, s5_, s6_, s7_, s8_⟩
   go_simp
   with_reducible rfl
  ·simp only [Act.put, pA, pB, pC]
   rfl
  obtain ⟨⟨z0, z1, z2, z3, z4, z5, z6, z7, z8⟩, ⟨k0, k1, k2, k3, k4, k5, k6, k7, k8⟩⟩ := L2.c9
  obtain ⟨W9, hW9, L9, hK9, hL9, _⟩ := put9 L2 (.b true) (.i c1) (.b c2) (.u c3) (.i c4) (.i c5) (.b c6) (.u c7) (.i c8)
  have H9 := hK9 _ _ _ (by omega) H2
  replace X2 := hK9 _ _ _ (by omega) X2
  have HB9 := hL9 w HB2 (by omega)
  refine one_ (i := 2) (N := none) (bq 4 7) rfl rfl (by kernel_rfl) (by decide) (fun K hK => ?_)
  refine skip_ (w1 := ?_) (by rfl) rfl ?_ ?_
  rotate_left
  ·go_simp
   rfl
  refine hK.out _ _ ⟨X2.cell 0, X2.cell 1, X2.cell 2, X2.cell 3, X2.cell 4, X2.cell 5, X2.cell 6, X2.cell 7, X2.cell 8⟩ (fun hHeld => ?_)
  clear hK K
  try rw [hW9]
  clear z0 z1 z2 z3 z4 z5 z6 z7 z8 k0 k1 k2 k3 k4 k5 k6 k7 k8 hW9 hK9 hL9
  obtain ⟨⟨z0, z1, z2, z3, z4, z5, z6, z7, z8⟩, ⟨k0, k1, k2, k3, k4, k5, k6, k7, k8⟩⟩ := H9.c9
  obtain ⟨W10, hW10, H10, hK10, hL10, _⟩ := put9 H9 (.b true) (.i c1) (.b c2) (.u c3) (.i c4) (.i c5) (.b c6) (.u c7) (.i c8)
  have L10 := hK10 _ _ _ (by omega) L9
  have HB10 := hL10 w HB9 (by omega)
  refine last_ (i := 3) (N := none) (bq 4 15) rfl rfl (by kernel_rfl) (by decide) (fun K hK => ?_)
  refine skip_ (w1 := ?_) (by rfl) rfl ?_ ?_
  rotate_left
  ·go_simp
   rfl
  refine hK.out _ _ ?_
  clear hK K
  refine done_ (by kernel_rfl) ?_
  clear hHeld X2 HB2 H2 L2 L9 H9 HB9
  clear z0 z1 z2 z3 z4 z5 z6 z7 z8 k0 k1 k2 k3 k4 k5 k6 k7 k8 hK10 hL10
  go_wp2
  obtain ⟨⟨l0, l1, l2, l3, l4, l5, l6, l7, l8⟩, _⟩ := L10.c9
  obtain ⟨⟨h0, h1, h2, h3, h4, h5, h6, h7, h8⟩, _⟩ := H10.c9
  exact bodyPost_ret (v := .tuple #[.agg #[.b true, .i c1, .b c2, .u c3, .i c4, .i c5, .b c6, .u c7, .i c8], .agg #[.b true, .i c1, .b c2, .u c3, .i c4, .i c5, .b c6, .u c7, .i c8]]) (by simp [results, Tryz.results62, go_sem, l0, l1, l2, l3, l4, l5, l6, l7, l8, h0, h1, h2, h3, h4, h5, h6, h7, h8]) rfl ⟨rfl, HB10⟩
end Go.Proofs.YteabdeohhmbclaaGreat.Wk
