/- Walk: arith.Add of two finite ones. -/
import Derived.Test.YteabdeohhmbclaaGreatAriGy
namespace Go.Proofs.YteabdeohhmbclaaGreat.Wk
open Go.RowKit Go.Proofs.Pl Go.Proofs.YteabdeohhmbclaaGreatW.PrintLast
set_option linter.unusedSimpArgs false
set_option linter.unusedVariables false

set_option maxRecDepth 100000 in
set_option maxHeartbeats 8000000 in
theorem add_same (x0 : Int) (x1 : Bool) (x2 x3 : Int) (y0 : Int) (y1 : Bool) (y2 y3 : Int) (up : Bool) (f1 : Bool) (f2 f3 g2 g3 : Int) (c : Num) (hns : g3 < f3 ∨ (g3 = f3 ∧ g2 ≤ f2))
  (hFx : fairN ⟨x0, x1, x2, x3⟩ = ⟨1, f1, f2, f3⟩) (hFy : fairN ⟨y0, y1, y2, y3⟩ = ⟨1, f1, g2, g3⟩)
  (hR : ∀ W, Calls Tryz.prog 83 #[.agg #[.i 1, .b f1, .u f2, .i f3], .agg #[.i 1, .b f1, .u g2, .i g3], .b up] W fun e w' => e = .returned (.agg #[.i (c).k, .b (c).n, .u (c).m, .i (c).e]) ∧ Below W.heap.size W w') (w : World) :
  Calls Tryz.prog 74 #[.agg #[.i x0, .b x1, .u x2, .i x3], .agg #[.i y0, .b y1, .u y2, .i y3], .b up] w fun e w' => e = .returned (.agg #[.i (c).k, .b (c).n, .u (c).m, .i (c).e]) ∧ Below w.heap.size w w' := by
 have HFx := Lib.hid (fun W => afair_calls x0 x1 x2 x3 W)
 have HFy := Lib.hid (fun W => afair_calls y0 y1 y2 y3 W)
 rw [hFx] at HFx
 rw [hFy] at HFy
 dsimp only at HFx HFy
 clear hFx hFy
 have HR := Lib.hid hR
 clear hR
 rcases hns with h1 | ⟨h0, h2⟩
 ·have h3 : ¬ f3 < g3 := by omega
  have h4 : (g3 == f3) = false := beq_eq_false_iff_ne.2 (by omega)
  have X0 := ((Blk.new w 32 #[.i x0, .b x1, .u x2, .i x3]).alloc (.cells #[.i y0, .b y1, .u y2, .i y3] 32)).alloc (.cells #[.i 0, .b false, .u 0, .i 0] 32)
  have Y0 := (Blk.new1 w (.cells #[.i x0, .b x1, .u x2, .i x3] 32) 32 #[.i y0, .b y1, .u y2, .i y3]).alloc (.cells #[.i 0, .b false, .u 0, .i 0] 32)
  have BR0 := Blk.new2 w (.cells #[.i x0, .b x1, .u x2, .i x3] 32) (.cells #[.i y0, .b y1, .u y2, .i y3] 32) 32 #[.i 0, .b false, .u 0, .i 0]
  have HB0 := bl_alloc (bl_alloc (bl_alloc (Below.refl w.heap.size w) (.cells #[.i x0, .b x1, .u x2, .i x3] 32)) (.cells #[.i y0, .b y1, .u y2, .i y3] 32)) (.cells #[.i 0, .b false, .u 0, .i 0] 32)
  go_enter Tryz.func74, Tryz.ntmps74
  go_wp2_with fail
  replace X0 := X0.drew
  replace Y0 := Y0.drew
  replace BR0 := BR0.drew
  replace HB0 := bl_drew HB0
  refine start_ (n := 6) (S := fun w' => w'.cell? ⟨w.heap.size, 0, none⟩ = some (.i x0) ∧ w'.cell? ⟨w.heap.size, 1, none⟩ = some (.b x1) ∧ w'.cell? ⟨w.heap.size, 2, none⟩ = some (.u x2) ∧ w'.cell? ⟨w.heap.size, 3, none⟩ = some (.i x3) ∧ w'.cell? ⟨w.heap.size + 1, 0, none⟩ = some (.i y0) ∧ w'.cell? ⟨w.heap.size + 1, 1, none⟩ = some (.b y1) ∧ w'.cell? ⟨w.heap.size + 1, 2, none⟩ = some (.u y2) ∧ w'.cell? ⟨w.heap.size + 1, 3, none⟩ = some (.i y3)) (ds := [4,5]) (bq 6 0) (by kernel_rfl) rfl rfl ⟨X0.cell 0, X0.cell 1, X0.cell 2, X0.cell 3, Y0.cell 0, Y0.cell 1, Y0.cell 2, Y0.cell 3⟩ (fun hHeld => ?_)
  generalize (((w.alloc (.cells #[.i x0, .b x1, .u x2, .i x3] 32)).alloc (.cells #[.i y0, .b y1, .u y2, .i y3] 32)).alloc (.cells #[.i 0, .b false, .u 0, .i 0] 32)).drew = W0 at X0 Y0 BR0 HB0 hHeld ⊢
  refine tk 0 7 (bq 6 1) ?_ ?_ ?_ ?_ hHeld ?_
  rotate_left 2
  ·rintro w' ⟨s0_, s1_, s2_, s3_, s4_, s5_, s6_, s7_⟩
   go_simp
   with_reducible rfl
  ·simp only [Act.put, pA, pB, pC]
   rfl
  refine tk 2 9 (bq 6 5) ?_ ?_ ?_ ?_ hHeld ?_
  rotate_left 2
  ·rintro w' ⟨s0_, s1_, s2_, s3_, s4_, s5_, s6_, s7_⟩
   go_simp
   with_reducible rfl
  ·simp only [Act.put, pA, pB, pC]
   rfl
  refine on 1 8 (bq 6 7) (fun K hK => ?_)
  refine goes_ Tryz.func82 (by kernel_rfl) rfl #[.agg #[.i x0, .b x1, .u x2, .i x3]] (by first | rfl | go_simp) rfl rfl (by simp only [List.map_toArray, List.map_cons, List.map_nil] <;> rfl) ?_
  with_reducible refine (HFx.out W0).mono ?_
  rintro e w1 ⟨rfl, hb⟩
  refine ⟨_, rfl, ?_⟩
  have X1 := X0.call hb
  have Y1 := Y0.call hb
  have BR1 := BR0.call hb
  have HB1 := bl_trans HB0 hb
  refine hK.out _ _ ⟨X1.cell 0, X1.cell 1, X1.cell 2, X1.cell 3, Y1.cell 0, Y1.cell 1, Y1.cell 2, Y1.cell 3⟩ (fun hHeld => ?_)
  clear hK K hb
  refine norm_ (a' := ?_) ?_ ?_
  rotate_left
  ·show Act.put _ (some 8) _ = _
   simp only [Act.put, pA, pB, pC]
   rfl
  refine on 3 10 (bq 6 15) (fun K hK => ?_)
  refine goes_ Tryz.func82 (by kernel_rfl) rfl #[.agg #[.i y0, .b y1, .u y2, .i y3]] (by first | rfl | go_simp) rfl rfl (by simp only [List.map_toArray, List.map_cons, List.map_nil] <;> rfl) ?_
  with_reducible refine (HFy.out w1).mono ?_
  rintro e w2 ⟨rfl, hb⟩
  refine ⟨_, rfl, ?_⟩
  have X2 := X1.call hb
  have Y2 := Y1.call hb
  have BR2 := BR1.call hb
  have HB2 := bl_trans HB1 hb
  refine hK.out _ _ ⟨X2.cell 0, X2.cell 1, X2.cell 2, X2.cell 3, Y2.cell 0, Y2.cell 1, Y2.cell 2, Y2.cell 3⟩ (fun hHeld => ?_)
  clear hK K hb
  refine norm_ (a' := ?_) ?_ ?_
  rotate_left
  ·show Act.put _ (some 10) _ = _
   simp only [Act.put, pA, pB, pC]
   rfl
  obtain ⟨⟨q0, q1, q2, q3⟩, ⟨k0, k1, k2, k3⟩⟩ := X2.c4
  obtain ⟨W3, hW3, X3, hK3, hBl3, hsz3⟩ := put4 X2 (.i 1) (.b f1) (.u f2) (.i f3)
  have Y3 := hK3 _ _ _ (by omega) Y2
  have BR3 := hK3 _ _ _ (by omega) BR2
  have HB3 := hBl3 w HB2 (Nat.le_refl _)
  refine last_ (i := 4) (N := none) (bq 6 31) rfl rfl (by kernel_rfl) (by decide) (fun K hK => ?_)
  refine skip_ (w1 := ?_) (by rfl) rfl ?_ ?_
  rotate_left
  ·go_simp
   rfl
  refine hK.out _ _ ?_
  clear hK K
  try rw [hW3]
  clear q0 q1 q2 q3 k0 k1 k2 k3 hW3 hK3 hBl3 hsz3
  obtain ⟨⟨q0, q1, q2, q3⟩, ⟨k0, k1, k2, k3⟩⟩ := Y3.c4
  obtain ⟨W4, hW4, Y4, hK4, hBl4, hsz4⟩ := put4 Y3 (.i 1) (.b f1) (.u g2) (.i g3)
  have X4 := hK4 _ _ _ (by omega) X3
  have BR4 := hK4 _ _ _ (by omega) BR3
  have HB4 := hBl4 w HB3 (Nat.le_succ _)
  refine last_ (i := 5) (N := none) (bq 6 63) rfl rfl (by kernel_rfl) (by decide) (fun K hK => ?_)
  refine skip_ (w1 := ?_) (by rfl) rfl ?_ ?_
  rotate_left
  ·go_simp
   rfl
  refine hK.out _ _ ?_
  clear hK K
  try rw [hW4]
  clear q0 q1 q2 q3 k0 k1 k2 k3 hW4 hK4 hBl4 hsz4 hHeld
  refine done_ (by kernel_rfl) ?_
  obtain ⟨⟨a0, a1, a2, a3⟩, ⟨m0, m1, m2, m3⟩⟩ := X4.c4
  obtain ⟨⟨b0, b1, b2, b3⟩, ⟨n0, n1, n2, n3⟩⟩ := Y4.c4
  clear X0 Y0 BR0 HB0 X1 Y1 BR1 HB1 X2 Y2 BR2 HB2 X3 Y3 BR3 HB3
  go_wp2_with (first
   | (go_at_call 83; (refine (HR.out _).mono ?_); rintro e' w7 ⟨rfl, hb⟩; have HB7 := bl_trans HB4 hb; have BR7 := BR4.call hb; clear hb)
   | (refine wpList_stG rfl 32 (.tmp 6) (.tmp 80) rfl (w.heap.size + 1 + 1) _ #[.i c.k, .b c.n, .u c.m, .i c.e] BR7 rfl rfl (by kernel_rfl) rfl (by simp [Value.oneCell']) ?_; intro W8 B8 P8; have HB8 := P8.bel HB7 (by omega)))
  exact bodyPost_ret (results_cell_row rfl _ _ (w.heap.size + 1 + 1) 32 _ (0, 0) _ rfl B8 Tryz.underlying32 rfl (by kernel_rfl)) rfl ⟨rfl, HB8⟩
 ·have h3 : ¬ f2 < g2 := by omega
  have h4 : ¬ f3 < g3 := by omega
  have h5 : (g3 == f3) = true := beq_iff_eq.2 h0
  clear h0
  have X0 := ((Blk.new w 32 #[.i x0, .b x1, .u x2, .i x3]).alloc (.cells #[.i y0, .b y1, .u y2, .i y3] 32)).alloc (.cells #[.i 0, .b false, .u 0, .i 0] 32)
  have Y0 := (Blk.new1 w (.cells #[.i x0, .b x1, .u x2, .i x3] 32) 32 #[.i y0, .b y1, .u y2, .i y3]).alloc (.cells #[.i 0, .b false, .u 0, .i 0] 32)
  have BR0 := Blk.new2 w (.cells #[.i x0, .b x1, .u x2, .i x3] 32) (.cells #[.i y0, .b y1, .u y2, .i y3] 32) 32 #[.i 0, .b false, .u 0, .i 0]
  have HB0 := bl_alloc (bl_alloc (bl_alloc (Below.refl w.heap.size w) (.cells #[.i x0, .b x1, .u x2, .i x3] 32)) (.cells #[.i y0, .b y1, .u y2, .i y3] 32)) (.cells #[.i 0, .b false, .u 0, .i 0] 32)
  go_enter Tryz.func74, Tryz.ntmps74
  go_wp2_with fail
  replace X0 := X0.drew
  replace Y0 := Y0.drew
  replace BR0 := BR0.drew
  replace HB0 := bl_drew HB0
  refine start_ (n := 6) (S := fun w' => w'.cell? ⟨w.heap.size, 0, none⟩ = some (.i x0) ∧ w'.cell? ⟨w.heap.size, 1, none⟩ = some (.b x1) ∧ w'.cell? ⟨w.heap.size, 2, none⟩ = some (.u x2) ∧ w'.cell? ⟨w.heap.size, 3, none⟩ = some (.i x3) ∧ w'.cell? ⟨w.heap.size + 1, 0, none⟩ = some (.i y0) ∧ w'.cell? ⟨w.heap.size + 1, 1, none⟩ = some (.b y1) ∧ w'.cell? ⟨w.heap.size + 1, 2, none⟩ = some (.u y2) ∧ w'.cell? ⟨w.heap.size + 1, 3, none⟩ = some (.i y3)) (ds := [4,5]) (bq 6 0) (by kernel_rfl) rfl rfl ⟨X0.cell 0, X0.cell 1, X0.cell 2, X0.cell 3, Y0.cell 0, Y0.cell 1, Y0.cell 2, Y0.cell 3⟩ (fun hHeld => ?_)
  generalize (((w.alloc (.cells #[.i x0, .b x1, .u x2, .i x3] 32)).alloc (.cells #[.i y0, .b y1, .u y2, .i y3] 32)).alloc (.cells #[.i 0, .b false, .u 0, .i 0] 32)).drew = W0 at X0 Y0 BR0 HB0 hHeld ⊢
  refine tk 0 7 (bq 6 1) ?_ ?_ ?_ ?_ hHeld ?_
  rotate_left 2
  ·rintro w' ⟨s0_, s1_, s2_, s3_, s4_, s5_, s6_, s7_⟩
   go_simp
   with_reducible rfl
  ·simp only [Act.put, pA, pB, pC]
   rfl
  refine tk 2 9 (bq 6 5) ?_ ?_ ?_ ?_ hHeld ?_
  rotate_left 2
  ·rintro w' ⟨s0_, s1_, s2_, s3_, s4_, s5_, s6_, s7_⟩
   go_simp
   with_reducible rfl
  ·simp only [Act.put, pA, pB, pC]
   rfl
  refine on 1 8 (bq 6 7) (fun K hK => ?_)
  refine goes_ Tryz.func82 (by kernel_rfl) rfl #[.agg #[.i x0, .b x1, .u x2, .i x3]] (by first | rfl | go_simp) rfl rfl (by simp only [List.map_toArray, List.map_cons, List.map_nil] <;> rfl) ?_
  with_reducible refine (HFx.out W0).mono ?_
  rintro e w1 ⟨rfl, hb⟩
  refine ⟨_, rfl, ?_⟩
  have X1 := X0.call hb
  have Y1 := Y0.call hb
  have BR1 := BR0.call hb
  have HB1 := bl_trans HB0 hb
  refine hK.out _ _ ⟨X1.cell 0, X1.cell 1, X1.cell 2, X1.cell 3, Y1.cell 0, Y1.cell 1, Y1.cell 2, Y1.cell 3⟩ (fun hHeld => ?_)
  clear hK K hb
  refine norm_ (a' := ?_) ?_ ?_
  rotate_left
  ·show Act.put _ (some 8) _ = _
   simp only [Act.put, pA, pB, pC]
   rfl
  refine on 3 10 (bq 6 15) (fun K hK => ?_)
  refine goes_ Tryz.func82 (by kernel_rfl) rfl #[.agg #[.i y0, .b y1, .u y2, .i y3]] (by first | rfl | go_simp) rfl rfl (by simp only [List.map_toArray, List.map_cons, List.map_nil] <;> rfl) ?_
  with_reducible refine (HFy.out w1).mono ?_
  rintro e w2 ⟨rfl, hb⟩
  refine ⟨_, rfl, ?_⟩
  have X2 := X1.call hb
  have Y2 := Y1.call hb
  have BR2 := BR1.call hb
  have HB2 := bl_trans HB1 hb
  refine hK.out _ _ ⟨X2.cell 0, X2.cell 1, X2.cell 2, X2.cell 3, Y2.cell 0, Y2.cell 1, Y2.cell 2, Y2.cell 3⟩ (fun hHeld => ?_)
  clear hK K hb
  refine norm_ (a' := ?_) ?_ ?_
  rotate_left
  ·show Act.put _ (some 10) _ = _
   simp only [Act.put, pA, pB, pC]
   rfl
  obtain ⟨⟨q0, q1, q2, q3⟩, ⟨k0, k1, k2, k3⟩⟩ := X2.c4
  obtain ⟨W3, hW3, X3, hK3, hBl3, hsz3⟩ := put4 X2 (.i 1) (.b f1) (.u f2) (.i f3)
  have Y3 := hK3 _ _ _ (by omega) Y2
  have BR3 := hK3 _ _ _ (by omega) BR2
  have HB3 := hBl3 w HB2 (Nat.le_refl _)
  refine last_ (i := 4) (N := none) (bq 6 31) rfl rfl (by kernel_rfl) (by decide) (fun K hK => ?_)
  refine skip_ (w1 := ?_) (by rfl) rfl ?_ ?_
  rotate_left
  ·go_simp
   rfl
  refine hK.out _ _ ?_
  clear hK K
  try rw [hW3]
  clear q0 q1 q2 q3 k0 k1 k2 k3 hW3 hK3 hBl3 hsz3
  obtain ⟨⟨q0, q1, q2, q3⟩, ⟨k0, k1, k2, k3⟩⟩ := Y3.c4
  obtain ⟨W4, hW4, Y4, hK4, hBl4, hsz4⟩ := put4 Y3 (.i 1) (.b f1) (.u g2) (.i g3)
  have X4 := hK4 _ _ _ (by omega) X3
  have BR4 := hK4 _ _ _ (by omega) BR3
  have HB4 := hBl4 w HB3 (Nat.le_succ _)
  refine last_ (i := 5) (N := none) (bq 6 63) rfl rfl (by kernel_rfl) (by decide) (fun K hK => ?_)
  refine skip_ (w1 := ?_) (by rfl) rfl ?_ ?_
  rotate_left
  ·go_simp
   rfl
  refine hK.out _ _ ?_
  clear hK K
  try rw [hW4]
  clear q0 q1 q2 q3 k0 k1 k2 k3 hW4 hK4 hBl4 hsz4 hHeld
  refine done_ (by kernel_rfl) ?_
  obtain ⟨⟨a0, a1, a2, a3⟩, ⟨m0, m1, m2, m3⟩⟩ := X4.c4
  obtain ⟨⟨b0, b1, b2, b3⟩, ⟨n0, n1, n2, n3⟩⟩ := Y4.c4
  clear X0 Y0 BR0 HB0 X1 Y1 BR1 HB1 X2 Y2 BR2 HB2 X3 Y3 BR3 HB3
  go_wp2_with (first
   | (go_at_call 83; (refine (HR.out _).mono ?_); rintro e' w7 ⟨rfl, hb⟩; have HB7 := bl_trans HB4 hb; have BR7 := BR4.call hb; clear hb)
   | (refine wpList_stG rfl 32 (.tmp 6) (.tmp 80) rfl (w.heap.size + 1 + 1) _ #[.i c.k, .b c.n, .u c.m, .i c.e] BR7 rfl rfl (by kernel_rfl) rfl (by simp [Value.oneCell']) ?_; intro W8 B8 P8; have HB8 := P8.bel HB7 (by omega)))
  exact bodyPost_ret (results_cell_row rfl _ _ (w.heap.size + 1 + 1) 32 _ (0, 0) _ rfl B8 Tryz.underlying32 rfl (by kernel_rfl)) rfl ⟨rfl, HB8⟩
set_option maxRecDepth 100000 in
set_option maxHeartbeats 8000000 in
theorem add_opp (x0 : Int) (x1 : Bool) (x2 x3 : Int) (y0 : Int) (y1 : Bool) (y2 y3 : Int) (up : Bool) (f1 : Bool) (f2 f3 g2 g3 : Int) (c : Num) (hns : g3 < f3 ∨ (g3 = f3 ∧ g2 < f2))
  (hFx : fairN ⟨x0, x1, x2, x3⟩ = ⟨1, f1, f2, f3⟩) (hFy : fairN ⟨y0, y1, y2, y3⟩ = ⟨1, !f1, g2, g3⟩)
  (hR : ∀ W, Calls Tryz.prog 84 #[.agg #[.i 1, .b f1, .u f2, .i f3], .agg #[.i 1, .b (!f1), .u g2, .i g3], .b up] W fun e w' => e = .returned (.agg #[.i (c).k, .b (c).n, .u (c).m, .i (c).e]) ∧ Below W.heap.size W w') (w : World) :
  Calls Tryz.prog 74 #[.agg #[.i x0, .b x1, .u x2, .i x3], .agg #[.i y0, .b y1, .u y2, .i y3], .b up] w fun e w' => e = .returned (.agg #[.i (c).k, .b (c).n, .u (c).m, .i (c).e]) ∧ Below w.heap.size w w' := by
 have HFx := Lib.hid (fun W => afair_calls x0 x1 x2 x3 W)
 have HFy := Lib.hid (fun W => afair_calls y0 y1 y2 y3 W)
 rw [hFx] at HFx
 rw [hFy] at HFy
 dsimp only at HFx HFy
 clear hFx hFy
 have HR := Lib.hid hR
 clear hR
 rcases hns with h1 | ⟨h0, h2⟩
 ·have h3 : ¬ f3 < g3 := by omega
  have h4 : (g3 == f3) = false := beq_eq_false_iff_ne.2 (by omega)
  have h5 : (f3 == g3) = false := beq_eq_false_iff_ne.2 (by omega)
  have X0 := ((Blk.new w 32 #[.i x0, .b x1, .u x2, .i x3]).alloc (.cells #[.i y0, .b y1, .u y2, .i y3] 32)).alloc (.cells #[.i 0, .b false, .u 0, .i 0] 32)
  have Y0 := (Blk.new1 w (.cells #[.i x0, .b x1, .u x2, .i x3] 32) 32 #[.i y0, .b y1, .u y2, .i y3]).alloc (.cells #[.i 0, .b false, .u 0, .i 0] 32)
  have BR0 := Blk.new2 w (.cells #[.i x0, .b x1, .u x2, .i x3] 32) (.cells #[.i y0, .b y1, .u y2, .i y3] 32) 32 #[.i 0, .b false, .u 0, .i 0]
  have HB0 := bl_alloc (bl_alloc (bl_alloc (Below.refl w.heap.size w) (.cells #[.i x0, .b x1, .u x2, .i x3] 32)) (.cells #[.i y0, .b y1, .u y2, .i y3] 32)) (.cells #[.i 0, .b false, .u 0, .i 0] 32)
  go_enter Tryz.func74, Tryz.ntmps74
  go_wp2_with fail
  replace X0 := X0.drew
  replace Y0 := Y0.drew
  replace BR0 := BR0.drew
  replace HB0 := bl_drew HB0
  refine start_ (n := 6) (S := fun w' => w'.cell? ⟨w.heap.size, 0, none⟩ = some (.i x0) ∧ w'.cell? ⟨w.heap.size, 1, none⟩ = some (.b x1) ∧ w'.cell? ⟨w.heap.size, 2, none⟩ = some (.u x2) ∧ w'.cell? ⟨w.heap.size, 3, none⟩ = some (.i x3) ∧ w'.cell? ⟨w.heap.size + 1, 0, none⟩ = some (.i y0) ∧ w'.cell? ⟨w.heap.size + 1, 1, none⟩ = some (.b y1) ∧ w'.cell? ⟨w.heap.size + 1, 2, none⟩ = some (.u y2) ∧ w'.cell? ⟨w.heap.size + 1, 3, none⟩ = some (.i y3)) (ds := [4,5]) (bq 6 0) (by kernel_rfl) rfl rfl ⟨X0.cell 0, X0.cell 1, X0.cell 2, X0.cell 3, Y0.cell 0, Y0.cell 1, Y0.cell 2, Y0.cell 3⟩ (fun hHeld => ?_)
  generalize (((w.alloc (.cells #[.i x0, .b x1, .u x2, .i x3] 32)).alloc (.cells #[.i y0, .b y1, .u y2, .i y3] 32)).alloc (.cells #[.i 0, .b false, .u 0, .i 0] 32)).drew = W0 at X0 Y0 BR0 HB0 hHeld ⊢
  refine tk 0 7 (bq 6 1) ?_ ?_ ?_ ?_ hHeld ?_
  rotate_left 2
  ·rintro w' ⟨s0_, s1_, s2_, s3_, s4_, s5_, s6_, s7_⟩
   go_simp
   with_reducible rfl
  ·simp only [Act.put, pA, pB, pC]
   rfl
  refine tk 2 9 (bq 6 5) ?_ ?_ ?_ ?_ hHeld ?_
  rotate_left 2
  ·rintro w' ⟨s0_, s1_, s2_, s3_, s4_, s5_, s6_, s7_⟩
   go_simp
   with_reducible rfl
  ·simp only [Act.put, pA, pB, pC]
   rfl
  refine on 1 8 (bq 6 7) (fun K hK => ?_)
  refine goes_ Tryz.func82 (by kernel_rfl) rfl #[.agg #[.i x0, .b x1, .u x2, .i x3]] (by first | rfl | go_simp) rfl rfl (by simp only [List.map_toArray, List.map_cons, List.map_nil] <;> rfl) ?_
  with_reducible refine (HFx.out W0).mono ?_
  rintro e w1 ⟨rfl, hb⟩
  refine ⟨_, rfl, ?_⟩
  have X1 := X0.call hb
  have Y1 := Y0.call hb
  have BR1 := BR0.call hb
  have HB1 := bl_trans HB0 hb
  refine hK.out _ _ ⟨X1.cell 0, X1.cell 1, X1.cell 2, X1.cell 3, Y1.cell 0, Y1.cell 1, Y1.cell 2, Y1.cell 3⟩ (fun hHeld => ?_)
  clear hK K hb
  refine norm_ (a' := ?_) ?_ ?_
  rotate_left
  ·show Act.put _ (some 8) _ = _
   simp only [Act.put, pA, pB, pC]
   rfl
  refine on 3 10 (bq 6 15) (fun K hK => ?_)
  refine goes_ Tryz.func82 (by kernel_rfl) rfl #[.agg #[.i y0, .b y1, .u y2, .i y3]] (by first | rfl | go_simp) rfl rfl (by simp only [List.map_toArray, List.map_cons, List.map_nil] <;> rfl) ?_
  with_reducible refine (HFy.out w1).mono ?_
  rintro e w2 ⟨rfl, hb⟩
  refine ⟨_, rfl, ?_⟩
  have X2 := X1.call hb
  have Y2 := Y1.call hb
  have BR2 := BR1.call hb
  have HB2 := bl_trans HB1 hb
  refine hK.out _ _ ⟨X2.cell 0, X2.cell 1, X2.cell 2, X2.cell 3, Y2.cell 0, Y2.cell 1, Y2.cell 2, Y2.cell 3⟩ (fun hHeld => ?_)
  clear hK K hb
  refine norm_ (a' := ?_) ?_ ?_
  rotate_left
  ·show Act.put _ (some 10) _ = _
   simp only [Act.put, pA, pB, pC]
   rfl
  obtain ⟨⟨q0, q1, q2, q3⟩, ⟨k0, k1, k2, k3⟩⟩ := X2.c4
  obtain ⟨W3, hW3, X3, hK3, hBl3, hsz3⟩ := put4 X2 (.i 1) (.b f1) (.u f2) (.i f3)
  have Y3 := hK3 _ _ _ (by omega) Y2
  have BR3 := hK3 _ _ _ (by omega) BR2
  have HB3 := hBl3 w HB2 (Nat.le_refl _)
  refine last_ (i := 4) (N := none) (bq 6 31) rfl rfl (by kernel_rfl) (by decide) (fun K hK => ?_)
  refine skip_ (w1 := ?_) (by rfl) rfl ?_ ?_
  rotate_left
  ·go_simp
   rfl
  refine hK.out _ _ ?_
  clear hK K
  try rw [hW3]
  clear q0 q1 q2 q3 k0 k1 k2 k3 hW3 hK3 hBl3 hsz3
  obtain ⟨⟨q0, q1, q2, q3⟩, ⟨k0, k1, k2, k3⟩⟩ := Y3.c4
  obtain ⟨W4, hW4, Y4, hK4, hBl4, hsz4⟩ := put4 Y3 (.i 1) (.b (!f1)) (.u g2) (.i g3)
  have X4 := hK4 _ _ _ (by omega) X3
  have BR4 := hK4 _ _ _ (by omega) BR3
  have HB4 := hBl4 w HB3 (Nat.le_succ _)
  refine last_ (i := 5) (N := none) (bq 6 63) rfl rfl (by kernel_rfl) (by decide) (fun K hK => ?_)
  refine skip_ (w1 := ?_) (by rfl) rfl ?_ ?_
  rotate_left
  ·go_simp
   rfl
  refine hK.out _ _ ?_
  clear hK K
  try rw [hW4]
  clear q0 q1 q2 q3 k0 k1 k2 k3 hW4 hK4 hBl4 hsz4 hHeld
  refine done_ (by kernel_rfl) ?_
  obtain ⟨⟨a0, a1, a2, a3⟩, ⟨m0, m1, m2, m3⟩⟩ := X4.c4
  obtain ⟨⟨b0, b1, b2, b3⟩, ⟨n0, n1, n2, n3⟩⟩ := Y4.c4
  clear X0 Y0 BR0 HB0 X1 Y1 BR1 HB1 X2 Y2 BR2 HB2 X3 Y3 BR3 HB3
  go_wp2_with (first
   | (go_at_call 84; (refine (HR.out _).mono ?_); rintro e' w7 ⟨rfl, hb⟩; have HB7 := bl_trans HB4 hb; have BR7 := BR4.call hb; clear hb)
   | (refine wpList_stG rfl 32 (.tmp 6) (.tmp 98) rfl (w.heap.size + 1 + 1) _ #[.i c.k, .b c.n, .u c.m, .i c.e] BR7 rfl rfl (by kernel_rfl) rfl (by simp [Value.oneCell']) ?_; intro W8 B8 P8; have HB8 := P8.bel HB7 (by omega)))
  exact bodyPost_ret (results_cell_row rfl _ _ (w.heap.size + 1 + 1) 32 _ (0, 0) _ rfl B8 Tryz.underlying32 rfl (by kernel_rfl)) rfl ⟨rfl, HB8⟩
 ·have h3 : ¬ f2 < g2 := by omega
  have h4 : (f2 == g2) = false := beq_eq_false_iff_ne.2 (by omega)
  have h5 : ¬ f3 < g3 := by omega
  have h6 : (g3 == f3) = true := beq_iff_eq.2 h0
  have h7 : (f3 == g3) = true := beq_iff_eq.2 h0.symm
  clear h0
  have X0 := ((Blk.new w 32 #[.i x0, .b x1, .u x2, .i x3]).alloc (.cells #[.i y0, .b y1, .u y2, .i y3] 32)).alloc (.cells #[.i 0, .b false, .u 0, .i 0] 32)
  have Y0 := (Blk.new1 w (.cells #[.i x0, .b x1, .u x2, .i x3] 32) 32 #[.i y0, .b y1, .u y2, .i y3]).alloc (.cells #[.i 0, .b false, .u 0, .i 0] 32)
  have BR0 := Blk.new2 w (.cells #[.i x0, .b x1, .u x2, .i x3] 32) (.cells #[.i y0, .b y1, .u y2, .i y3] 32) 32 #[.i 0, .b false, .u 0, .i 0]
  have HB0 := bl_alloc (bl_alloc (bl_alloc (Below.refl w.heap.size w) (.cells #[.i x0, .b x1, .u x2, .i x3] 32)) (.cells #[.i y0, .b y1, .u y2, .i y3] 32)) (.cells #[.i 0, .b false, .u 0, .i 0] 32)
  go_enter Tryz.func74, Tryz.ntmps74
  go_wp2_with fail
  replace X0 := X0.drew
  replace Y0 := Y0.drew
  replace BR0 := BR0.drew
  replace HB0 := bl_drew HB0
  refine start_ (n := 6) (S := fun w' => w'.cell? ⟨w.heap.size, 0, none⟩ = some (.i x0) ∧ w'.cell? ⟨w.heap.size, 1, none⟩ = some (.b x1) ∧ w'.cell? ⟨w.heap.size, 2, none⟩ = some (.u x2) ∧ w'.cell? ⟨w.heap.size, 3, none⟩ = some (.i x3) ∧ w'.cell? ⟨w.heap.size + 1, 0, none⟩ = some (.i y0) ∧ w'.cell? ⟨w.heap.size + 1, 1, none⟩ = some (.b y1) ∧ w'.cell? ⟨w.heap.size + 1, 2, none⟩ = some (.u y2) ∧ w'.cell? ⟨w.heap.size + 1, 3, none⟩ = some (.i y3)) (ds := [4,5]) (bq 6 0) (by kernel_rfl) rfl rfl ⟨X0.cell 0, X0.cell 1, X0.cell 2, X0.cell 3, Y0.cell 0, Y0.cell 1, Y0.cell 2, Y0.cell 3⟩ (fun hHeld => ?_)
  generalize (((w.alloc (.cells #[.i x0, .b x1, .u x2, .i x3] 32)).alloc (.cells #[.i y0, .b y1, .u y2, .i y3] 32)).alloc (.cells #[.i 0, .b false, .u 0, .i 0] 32)).drew = W0 at X0 Y0 BR0 HB0 hHeld ⊢
  refine tk 0 7 (bq 6 1) ?_ ?_ ?_ ?_ hHeld ?_
  rotate_left 2
  ·rintro w' ⟨s0_, s1_, s2_, s3_, s4_, s5_, s6_, s7_⟩
   go_simp
   with_reducible rfl
  ·simp only [Act.put, pA, pB, pC]
   rfl
  refine tk 2 9 (bq 6 5) ?_ ?_ ?_ ?_ hHeld ?_
  rotate_left 2
  ·rintro w' ⟨s0_, s1_, s2_, s3_, s4_, s5_, s6_, s7_⟩
   go_simp
   with_reducible rfl
  ·simp only [Act.put, pA, pB, pC]
   rfl
  refine on 1 8 (bq 6 7) (fun K hK => ?_)
  refine goes_ Tryz.func82 (by kernel_rfl) rfl #[.agg #[.i x0, .b x1, .u x2, .i x3]] (by first | rfl | go_simp) rfl rfl (by simp only [List.map_toArray, List.map_cons, List.map_nil] <;> rfl) ?_
  with_reducible refine (HFx.out W0).mono ?_
  rintro e w1 ⟨rfl, hb⟩
  refine ⟨_, rfl, ?_⟩
  have X1 := X0.call hb
  have Y1 := Y0.call hb
  have BR1 := BR0.call hb
  have HB1 := bl_trans HB0 hb
  refine hK.out _ _ ⟨X1.cell 0, X1.cell 1, X1.cell 2, X1.cell 3, Y1.cell 0, Y1.cell 1, Y1.cell 2, Y1.cell 3⟩ (fun hHeld => ?_)
  clear hK K hb
  refine norm_ (a' := ?_) ?_ ?_
  rotate_left
  ·show Act.put _ (some 8) _ = _
   simp only [Act.put, pA, pB, pC]
   rfl
  refine on 3 10 (bq 6 15) (fun K hK => ?_)
  refine goes_ Tryz.func82 (by kernel_rfl) rfl #[.agg #[.i y0, .b y1, .u y2, .i y3]] (by first | rfl | go_simp) rfl rfl (by simp only [List.map_toArray, List.map_cons, List.map_nil] <;> rfl) ?_
  with_reducible refine (HFy.out w1).mono ?_
  rintro e w2 ⟨rfl, hb⟩
  refine ⟨_, rfl, ?_⟩
  have X2 := X1.call hb
  have Y2 := Y1.call hb
  have BR2 := BR1.call hb
  have HB2 := bl_trans HB1 hb
  refine hK.out _ _ ⟨X2.cell 0, X2.cell 1, X2.cell 2, X2.cell 3, Y2.cell 0, Y2.cell 1, Y2.cell 2, Y2.cell 3⟩ (fun hHeld => ?_)
  clear hK K hb
  refine norm_ (a' := ?_) ?_ ?_
  rotate_left
  ·show Act.put _ (some 10) _ = _
   simp only [Act.put, pA, pB, pC]
   rfl
  obtain ⟨⟨q0, q1, q2, q3⟩, ⟨k0, k1, k2, k3⟩⟩ := X2.c4
  obtain ⟨W3, hW3, X3, hK3, hBl3, hsz3⟩ := put4 X2 (.i 1) (.b f1) (.u f2) (.i f3)
  have Y3 := hK3 _ _ _ (by omega) Y2
  have BR3 := hK3 _ _ _ (by omega) BR2
  have HB3 := hBl3 w HB2 (Nat.le_refl _)
  refine last_ (i := 4) (N := none) (bq 6 31) rfl rfl (by kernel_rfl) (by decide) (fun K hK => ?_)
  refine skip_ (w1 := ?_) (by rfl) rfl ?_ ?_
  rotate_left
  ·go_simp
   rfl
  refine hK.out _ _ ?_
  clear hK K
  try rw [hW3]
  clear q0 q1 q2 q3 k0 k1 k2 k3 hW3 hK3 hBl3 hsz3
  obtain ⟨⟨q0, q1, q2, q3⟩, ⟨k0, k1, k2, k3⟩⟩ := Y3.c4
  obtain ⟨W4, hW4, Y4, hK4, hBl4, hsz4⟩ := put4 Y3 (.i 1) (.b (!f1)) (.u g2) (.i g3)
  have X4 := hK4 _ _ _ (by omega) X3
  have BR4 := hK4 _ _ _ (by omega) BR3
  have HB4 := hBl4 w HB3 (Nat.le_succ _)
  refine last_ (i := 5) (N := none) (bq 6 63) rfl rfl (by kernel_rfl) (by decide) (fun K hK => ?_)
  refine skip_ (w1 := ?_) (by rfl) rfl ?_ ?_
  rotate_left
  ·go_simp
   rfl
  refine hK.out _ _ ?_
  clear hK K
  try rw [hW4]
  clear q0 q1 q2 q3 k0 k1 k2 k3 hW4 hK4 hBl4 hsz4 hHeld
  refine done_ (by kernel_rfl) ?_
  obtain ⟨⟨a0, a1, a2, a3⟩, ⟨m0, m1, m2, m3⟩⟩ := X4.c4
  obtain ⟨⟨b0, b1, b2, b3⟩, ⟨n0, n1, n2, n3⟩⟩ := Y4.c4
  clear X0 Y0 BR0 HB0 X1 Y1 BR1 HB1 X2 Y2 BR2 HB2 X3 Y3 BR3 HB3
  go_wp2_with (first
   | (go_at_call 84; (refine (HR.out _).mono ?_); rintro e' w7 ⟨rfl, hb⟩; have HB7 := bl_trans HB4 hb; have BR7 := BR4.call hb; clear hb)
   | (refine wpList_stG rfl 32 (.tmp 6) (.tmp 98) rfl (w.heap.size + 1 + 1) _ #[.i c.k, .b c.n, .u c.m, .i c.e] BR7 rfl rfl (by kernel_rfl) rfl (by simp [Value.oneCell']) ?_; intro W8 B8 P8; have HB8 := P8.bel HB7 (by omega)))
  exact bodyPost_ret (results_cell_row rfl _ _ (w.heap.size + 1 + 1) 32 _ (0, 0) _ rfl B8 Tryz.underlying32 rfl (by kernel_rfl)) rfl ⟨rfl, HB8⟩
set_option maxRecDepth 100000 in
set_option maxHeartbeats 8000000 in
theorem add_none (x0 : Int) (x1 : Bool) (x2 x3 : Int) (y0 : Int) (y1 : Bool) (y2 y3 : Int) (up : Bool) (f1 : Bool) (f2 f3 : Int)
  (hFx : fairN ⟨x0, x1, x2, x3⟩ = ⟨1, f1, f2, f3⟩) (hFy : fairN ⟨y0, y1, y2, y3⟩ = ⟨1, !f1, f2, f3⟩) (w : World) :
  Calls Tryz.prog 74 #[.agg #[.i x0, .b x1, .u x2, .i x3], .agg #[.i y0, .b y1, .u y2, .i y3], .b up] w fun e w' => e = .returned (.agg #[.i 0, .b false, .u 0, .i 0]) ∧ Below w.heap.size w w' := by
 have HFx := Lib.hid (fun W => afair_calls x0 x1 x2 x3 W)
 have HFy := Lib.hid (fun W => afair_calls y0 y1 y2 y3 W)
 rw [hFx] at HFx
 rw [hFy] at HFy
 dsimp only at HFx HFy
 clear hFx hFy
 have X0 := ((Blk.new w 32 #[.i x0, .b x1, .u x2, .i x3]).alloc (.cells #[.i y0, .b y1, .u y2, .i y3] 32)).alloc (.cells #[.i 0, .b false, .u 0, .i 0] 32)
 have Y0 := (Blk.new1 w (.cells #[.i x0, .b x1, .u x2, .i x3] 32) 32 #[.i y0, .b y1, .u y2, .i y3]).alloc (.cells #[.i 0, .b false, .u 0, .i 0] 32)
 have BR0 := Blk.new2 w (.cells #[.i x0, .b x1, .u x2, .i x3] 32) (.cells #[.i y0, .b y1, .u y2, .i y3] 32) 32 #[.i 0, .b false, .u 0, .i 0]
 have HB0 := bl_alloc (bl_alloc (bl_alloc (Below.refl w.heap.size w) (.cells #[.i x0, .b x1, .u x2, .i x3] 32)) (.cells #[.i y0, .b y1, .u y2, .i y3] 32)) (.cells #[.i 0, .b false, .u 0, .i 0] 32)
 go_enter Tryz.func74, Tryz.ntmps74
 go_wp2_with fail
 replace X0 := X0.drew
 replace Y0 := Y0.drew
 replace BR0 := BR0.drew
 replace HB0 := bl_drew HB0
 refine start_ (n := 6) (S := fun w' => w'.cell? ⟨w.heap.size, 0, none⟩ = some (.i x0) ∧ w'.cell? ⟨w.heap.size, 1, none⟩ = some (.b x1) ∧ w'.cell? ⟨w.heap.size, 2, none⟩ = some (.u x2) ∧ w'.cell? ⟨w.heap.size, 3, none⟩ = some (.i x3) ∧ w'.cell? ⟨w.heap.size + 1, 0, none⟩ = some (.i y0) ∧ w'.cell? ⟨w.heap.size + 1, 1, none⟩ = some (.b y1) ∧ w'.cell? ⟨w.heap.size + 1, 2, none⟩ = some (.u y2) ∧ w'.cell? ⟨w.heap.size + 1, 3, none⟩ = some (.i y3)) (ds := [4,5]) (bq 6 0) (by kernel_rfl) rfl rfl ⟨X0.cell 0, X0.cell 1, X0.cell 2, X0.cell 3, Y0.cell 0, Y0.cell 1, Y0.cell 2, Y0.cell 3⟩ (fun hHeld => ?_)
 generalize (((w.alloc (.cells #[.i x0, .b x1, .u x2, .i x3] 32)).alloc (.cells #[.i y0, .b y1, .u y2, .i y3] 32)).alloc (.cells #[.i 0, .b false, .u 0, .i 0] 32)).drew = W0 at X0 Y0 BR0 HB0 hHeld ⊢
 refine tk 0 7 (bq 6 1) ?_ ?_ ?_ ?_ hHeld ?_
 rotate_left 2
 ·rintro w' ⟨s0_, s1_, s2_, s3_, s4_, s5_, s6_, s7_⟩
  go_simp
  with_reducible rfl
 ·simp only [Act.put, pA, pB, pC]
  rfl
 refine tk 2 9 (bq 6 5) ?_ ?_ ?_ ?_ hHeld ?_
 rotate_left 2
 ·rintro w' ⟨s0_, s1_, s2_, s3_, s4_, s5_, s6_, s7_⟩
  go_simp
  with_reducible rfl
 ·simp only [Act.put, pA, pB, pC]
  rfl
 refine on 1 8 (bq 6 7) (fun K hK => ?_)
 refine goes_ Tryz.func82 (by kernel_rfl) rfl #[.agg #[.i x0, .b x1, .u x2, .i x3]] (by first | rfl | go_simp) rfl rfl (by simp only [List.map_toArray, List.map_cons, List.map_nil] <;> rfl) ?_
 with_reducible refine (HFx.out W0).mono ?_
 rintro e w1 ⟨rfl, hb⟩
 refine ⟨_, rfl, ?_⟩
 have X1 := X0.call hb
 have Y1 := Y0.call hb
 have BR1 := BR0.call hb
 have HB1 := bl_trans HB0 hb
 refine hK.out _ _ ⟨X1.cell 0, X1.cell 1, X1.cell 2, X1.cell 3, Y1.cell 0, Y1.cell 1, Y1.cell 2, Y1.cell 3⟩ (fun hHeld => ?_)
 clear hK K hb
 refine norm_ (a' := ?_) ?_ ?_
 rotate_left
 ·show Act.put _ (some 8) _ = _
  simp only [Act.put, pA, pB, pC]
  rfl
 refine on 3 10 (bq 6 15) (fun K hK => ?_)
 refine goes_ Tryz.func82 (by kernel_rfl) rfl #[.agg #[.i y0, .b y1, .u y2, .i y3]] (by first | rfl | go_simp) rfl rfl (by simp only [List.map_toArray, List.map_cons, List.map_nil] <;> rfl) ?_
 with_reducible refine (HFy.out w1).mono ?_
 rintro e w2 ⟨rfl, hb⟩
 refine ⟨_, rfl, ?_⟩
 have X2 := X1.call hb
 have Y2 := Y1.call hb
 have BR2 := BR1.call hb
 have HB2 := bl_trans HB1 hb
 refine hK.out _ _ ⟨X2.cell 0, X2.cell 1, X2.cell 2, X2.cell 3, Y2.cell 0, Y2.cell 1, Y2.cell 2, Y2.cell 3⟩ (fun hHeld => ?_)
 clear hK K hb
 refine norm_ (a' := ?_) ?_ ?_
 rotate_left
 ·show Act.put _ (some 10) _ = _
  simp only [Act.put, pA, pB, pC]
  rfl
 obtain ⟨⟨q0, q1, q2, q3⟩, ⟨k0, k1, k2, k3⟩⟩ := X2.c4
 obtain ⟨W3, hW3, X3, hK3, hBl3, hsz3⟩ := put4 X2 (.i 1) (.b f1) (.u f2) (.i f3)
 have Y3 := hK3 _ _ _ (by omega) Y2
 have BR3 := hK3 _ _ _ (by omega) BR2
 have HB3 := hBl3 w HB2 (Nat.le_refl _)
 refine last_ (i := 4) (N := none) (bq 6 31) rfl rfl (by kernel_rfl) (by decide) (fun K hK => ?_)
 refine skip_ (w1 := ?_) (by rfl) rfl ?_ ?_
 rotate_left
 ·go_simp
  rfl
 refine hK.out _ _ ?_
 clear hK K
 try rw [hW3]
 clear q0 q1 q2 q3 k0 k1 k2 k3 hW3 hK3 hBl3 hsz3
 obtain ⟨⟨q0, q1, q2, q3⟩, ⟨k0, k1, k2, k3⟩⟩ := Y3.c4
 obtain ⟨W4, hW4, Y4, hK4, hBl4, hsz4⟩ := put4 Y3 (.i 1) (.b (!f1)) (.u f2) (.i f3)
 have X4 := hK4 _ _ _ (by omega) X3
 have BR4 := hK4 _ _ _ (by omega) BR3
 have HB4 := hBl4 w HB3 (Nat.le_succ _)
 refine last_ (i := 5) (N := none) (bq 6 63) rfl rfl (by kernel_rfl) (by decide) (fun K hK => ?_)
 refine skip_ (w1 := ?_) (by rfl) rfl ?_ ?_
 rotate_left
 ·go_simp
  rfl
 refine hK.out _ _ ?_
 clear hK K
 try rw [hW4]
 clear q0 q1 q2 q3 k0 k1 k2 k3 hW4 hK4 hBl4 hsz4 hHeld
 refine done_ (by kernel_rfl) ?_
 obtain ⟨⟨a0, a1, a2, a3⟩, ⟨m0, m1, m2, m3⟩⟩ := X4.c4
 obtain ⟨⟨b0, b1, b2, b3⟩, ⟨n0, n1, n2, n3⟩⟩ := Y4.c4
 clear X0 Y0 BR0 HB0 X1 Y1 BR1 HB1 X2 Y2 BR2 HB2 X3 Y3 BR3 HB3
 go_wp2_with (refine wpList_stG rfl 32 (.tmp 6) (.tmp 94) rfl (w.heap.size + 1 + 1) _ #[.i 0, .b false, .u 0, .i 0] BR4 rfl rfl (by kernel_rfl) rfl (by simp [Value.oneCell']) ?_; intro W8 B8 P8; have HB8 := P8.bel HB4 (by omega))
 exact bodyPost_ret (results_cell_row rfl _ _ (w.heap.size + 1 + 1) 32 _ (0, 0) _ rfl B8 Tryz.underlying32 rfl (by kernel_rfl)) rfl ⟨rfl, HB8⟩
end Go.Proofs.YteabdeohhmbclaaGreat.Wk
