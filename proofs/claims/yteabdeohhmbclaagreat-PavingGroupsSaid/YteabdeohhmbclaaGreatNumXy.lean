/- Walks: what num's small functions compute, for every number that comes in (no condition). -/
import Derived.Test.YteabdeohhmbclaaGreatRegLiby
import Derived.Test.YteabdeohhmbclaaGreatPureAy
namespace Go.Proofs.YteabdeohhmbclaaGreat.Wk
open Go.RowKit Go.Proofs.Pl
set_option linter.unusedSimpArgs false
set_option linter.unusedVariables false

set_option maxHeartbeats 400000 in
theorem mayN_calls (a0 : Int) (a1 : Bool) (a2 a3 : Int) (w : World) :
  Calls Tryz.prog 53 #[.agg #[.i a0, .b a1, .u a2, .i a3]] w fun e w' => e = .returned (.b (mayN ⟨a0, a1, a2, a3⟩)) ∧ Below w.heap.size w w' := by
 go_enter Tryz.func53, Tryz.ntmps53
 go_wp2
 all_goals go_ret
 all_goals refine ⟨?_, (Below.refl _ _).alloc (Nat.le_refl _) _⟩
 all_goals (simp_all [mayN]; try first | omega | (rw [Bool.eq_iff_iff]; simp))

set_option maxHeartbeats 400000 in
theorem fairN_calls (a0 : Int) (a1 : Bool) (a2 a3 : Int) (w : World) :
  Calls Tryz.prog 55 #[.agg #[.i a0, .b a1, .u a2, .i a3]] w fun e w' => e = .returned (.agg #[.i (fairN ⟨a0, a1, a2, a3⟩).k, .b (fairN ⟨a0, a1, a2, a3⟩).n, .u (fairN ⟨a0, a1, a2, a3⟩).m, .i (fairN ⟨a0, a1, a2, a3⟩).e]) ∧ Below w.heap.size w w' := by
 go_enter Tryz.func55, Tryz.ntmps55
 go_wp2_with (go_at_call 53; refine (mayN_calls _ _ _ _ _).mono ?_; rintro e w1 ⟨rfl, hb⟩; have HB := bl_trans (bl_alloc (bl_alloc (Below.refl w.heap.size w) _) _) hb; have hz := hb.size; obtain ⟨hc, hf⟩ := bcell hb; clear hb)
 all_goals refine bodyPost_ret (v := _) (by simp [results, Tryz.results55, go_sem, hc]; rfl) rfl ⟨?_, ?_⟩
 all_goals first
  | (simp_all [fairN, zero]; done)
  | (repeat (first | exact HB | refine bl_set ?_ (by simp) _ | apply bl_alloc))

set_option maxHeartbeats 400000 in
theorem signN_calls (a0 : Int) (a1 : Bool) (a2 a3 : Int) (w : World) :
  Calls Tryz.prog 56 #[.agg #[.i a0, .b a1, .u a2, .i a3]] w fun e w' => e = .returned (.i (signN ⟨a0, a1, a2, a3⟩)) ∧ Below w.heap.size w w' := by
 go_enter Tryz.func56, Tryz.ntmps56
 go_wp2_with (go_at_call 55; refine (fairN_calls _ _ _ _ _).mono ?_; rintro e w1 ⟨rfl, hb⟩; have HB := bl_trans (bl_alloc (Below.refl w.heap.size w) _) hb; have hz := hb.size; obtain ⟨hc, hf⟩ := bcell hb; clear hb)
 all_goals go_ret
 all_goals refine ⟨?_, ?_⟩
 all_goals first
  | (simp_all [signN, signF]; done)
  | (repeat (first | exact HB | refine bl_set ?_ (by simp) _ | apply bl_alloc))

set_option maxHeartbeats 400000 in
theorem farN_calls (a0 : Int) (a1 : Bool) (a2 a3 : Int) (b0 : Int) (b1 : Bool) (b2 b3 : Int) (w : World) :
  Calls Tryz.prog 57 #[.agg #[.i a0, .b a1, .u a2, .i a3], .agg #[.i b0, .b b1, .u b2, .i b3]] w fun e w' => e = .returned (.b (farN ⟨a0, a1, a2, a3⟩ ⟨b0, b1, b2, b3⟩)) ∧ Below w.heap.size w w' := by
 go_enter Tryz.func57, Tryz.ntmps57
 go_wp2
 all_goals go_ret
 all_goals refine ⟨?_, ?_⟩
 all_goals first
  | (simp_all [farN]; done)
  | (repeat (first | exact Below.refl _ _ | refine bl_set ?_ (by simp) _ | apply bl_alloc))

set_option maxHeartbeats 400000 in
theorem infN_calls (b : Bool) (w : World) :
  Calls Tryz.prog 54 #[.b b] w fun e w' => e = .returned (.agg #[.i (infN b).k, .b (infN b).n, .u (infN b).m, .i (infN b).e]) ∧ Below w.heap.size w w' := by
 go_enter Tryz.func54, Tryz.ntmps54
 go_wp2
 all_goals refine bodyPost_ret (v := _) (by simp [results, Tryz.results54, go_sem]; rfl) rfl ⟨?_, ?_⟩
 all_goals first
  | (simp_all [infN]; done)
  | (repeat (first | exact Below.refl _ _ | refine bl_set ?_ (by simp) _ | apply bl_alloc))

end Go.Proofs.YteabdeohhmbclaaGreat.Wk
namespace Go.Proofs.YteabdeohhmbclaaGreat.Wk
open Go.RowKit Go.Proofs.Pl Go.Proofs.YteabdeohhmbclaaGreatW.PrintLast
set_option linter.unusedSimpArgs false
set_option linter.unusedVariables false

set_option maxRecDepth 100000 in
set_option maxHeartbeats 2000000 in
theorem negN_calls (a0 : Int) (a1 : Bool) (a2 a3 : Int) (w : World) :
  Calls Tryz.prog 30 #[.agg #[.i a0, .b a1, .u a2, .i a3]] w fun e w' => e = .returned (.agg #[.i (negN ⟨a0, a1, a2, a3⟩).k, .b (negN ⟨a0, a1, a2, a3⟩).n, .u (negN ⟨a0, a1, a2, a3⟩).m, .i (negN ⟨a0, a1, a2, a3⟩).e]) ∧ Below w.heap.size w w' := by
 unfold negN
 have HF := Lib.hid (fun W => fairN_calls a0 a1 a2 a3 W)
 generalize fairN ⟨a0, a1, a2, a3⟩ = F at HF ⊢
 obtain ⟨c0, c1, c2, c3⟩ := F
 dsimp only at HF ⊢
 by_cases hk : c0 = 0
 ·subst hk
  go_enter Tryz.func30, Tryz.ntmps30
  go_wp2_with (go_at_call 55; refine (HF.out _).mono ?_; rintro e w1 ⟨rfl, hb⟩; have HB := bl_trans (bl_alloc (bl_alloc (Below.refl w.heap.size w) _) _) hb; have BX1 := ((Blk.new w _ _).alloc _).call hb; have BR1 := (Blk.new1 w _ _ _).call hb; obtain ⟨W2, hW2, BX, hK, hBl, hsz⟩ := put4 BX1 (.i 0) (.b c1) (.u c2) (.i c3); have BR := hK _ _ _ (by simp) BR1; have HB2 := hBl w HB (Nat.le_refl _); obtain ⟨⟨q0, q1, q2, q3⟩, ⟨f0, f1, f2, f3⟩⟩ := BX1.c4; obtain ⟨⟨r0, r1, r2, r3⟩, ⟨g0, g1, g2, g3⟩⟩ := BR.c4; obtain ⟨⟨s0, s1, s2, s3⟩, ⟨t0, t1, t2, t3⟩⟩ := BX.c4; clear hb HB BX1 BR1 BX BR hK hBl hsz)
  refine bodyPost_ret (v := _) (by simp [results, Tryz.results30, go_sem, r0, r1, r2, r3]; rfl) rfl ⟨by simp [negF], ?_⟩
  repeat (first | exact HB2 | refine bl_set ?_ (by simp) _ | apply bl_alloc)
 ·have hk1 : (c0 == 0) = false := beq_eq_false_iff_ne.2 hk
  have hk2 : (c0 != 0) = true := bne_iff_ne.2 hk
  clear hk
  go_enter Tryz.func30, Tryz.ntmps30
  go_wp2_with (go_at_call 55; refine (HF.out _).mono ?_; rintro e w1 ⟨rfl, hb⟩; have HB := bl_trans (bl_alloc (bl_alloc (Below.refl w.heap.size w) _) _) hb; have BX1 := ((Blk.new w _ _).alloc _).call hb; have BR1 := (Blk.new1 w _ _ _).call hb; obtain ⟨W2, hW2, BX, hK, hBl, hsz⟩ := put4 BX1 (.i c0) (.b c1) (.u c2) (.i c3); have BR := hK _ _ _ (by simp) BR1; have HB2 := hBl w HB (Nat.le_refl _); obtain ⟨⟨q0, q1, q2, q3⟩, ⟨f0, f1, f2, f3⟩⟩ := BX1.c4; obtain ⟨⟨r0, r1, r2, r3⟩, ⟨g0, g1, g2, g3⟩⟩ := BR.c4; obtain ⟨⟨s0, s1, s2, s3⟩, ⟨t0, t1, t2, t3⟩⟩ := BX.c4; clear hb HB BX1 BR1 BX BR hK hBl hsz)
  refine bodyPost_ret (v := _) (by simp [results, Tryz.results30, go_sem, r0, r1, r2, r3]; rfl) rfl ⟨by simp [negF, hk1], ?_⟩
  repeat (first | exact HB2 | refine bl_set ?_ (by simp) _ | apply bl_alloc)

theorem signN_bd (x : Num) : -1 ≤ signN x ∧ signN x ≤ 1 := by
 unfold signN signF
 split
 ·omega
 ·split <;> omega

set_option maxRecDepth 100000 in
set_option maxHeartbeats 2000000 in
theorem cmpN_calls (a0 : Int) (a1 : Bool) (a2 a3 : Int) (b0 : Int) (b1 : Bool) (b2 b3 : Int) (w : World) :
  Calls Tryz.prog 28 #[.agg #[.i a0, .b a1, .u a2, .i a3], .agg #[.i b0, .b b1, .u b2, .i b3]] w fun e w' => e = .returned (.i (cmpN ⟨a0, a1, a2, a3⟩ ⟨b0, b1, b2, b3⟩)) ∧ Below w.heap.size w w' := by
 unfold cmpN
 have HF := Lib.hid (fun W => fairN_calls a0 a1 a2 a3 W)
 have HG := Lib.hid (fun W => fairN_calls b0 b1 b2 b3 W)
 generalize fairN ⟨a0, a1, a2, a3⟩ = F at HF ⊢
 generalize fairN ⟨b0, b1, b2, b3⟩ = G at HG ⊢
 obtain ⟨c0, c1, c2, c3⟩ := F
 obtain ⟨d0, d1, d2, d3⟩ := G
 dsimp only at HF HG
 unfold cmpF
 have HS := Lib.hid (fun W => signN_calls c0 c1 c2 c3 W)
 have HT := Lib.hid (fun W => signN_calls d0 d1 d2 d3 W)
 have HP := Lib.hid (fun W => farN_calls c0 c1 c2 c3 d0 d1 d2 d3 W)
 have HQ := Lib.hid (fun W => farN_calls d0 d1 d2 d3 c0 c1 c2 c3 W)
 have sb := signN_bd ⟨c0, c1, c2, c3⟩
 generalize signN ⟨c0, c1, c2, c3⟩ = s at HS sb ⊢
 generalize signN ⟨d0, d1, d2, d3⟩ = t at HT ⊢
 generalize farN ⟨c0, c1, c2, c3⟩ ⟨d0, d1, d2, d3⟩ = p at HP ⊢
 generalize farN ⟨d0, d1, d2, d3⟩ ⟨c0, c1, c2, c3⟩ = q at HQ ⊢
 obtain ⟨sb0, sb1⟩ := sb
 go_enter Tryz.func28, Tryz.ntmps28
 go_wp2_with fail
 have BA := ((Blk.new w 32 #[.i a0, .b a1, .u a2, .i a3]).alloc (.cells #[.i b0, .b b1, .u b2, .i b3] 32)).drew
 have BB := (Blk.new1 w (.cells #[.i a0, .b a1, .u a2, .i a3] 32) 32 #[.i b0, .b b1, .u b2, .i b3]).drew
 have HB := bl_drew (bl_alloc (bl_alloc (Below.refl w.heap.size w) (.cells #[.i a0, .b a1, .u a2, .i a3] 32)) (.cells #[.i b0, .b b1, .u b2, .i b3] 32))
 refine start_ (n := 6) (S := fun w' => w'.cell? ⟨w.heap.size, 0, none⟩ = some (.i a0) ∧ w'.cell? ⟨w.heap.size, 1, none⟩ = some (.b a1) ∧ w'.cell? ⟨w.heap.size, 2, none⟩ = some (.u a2) ∧ w'.cell? ⟨w.heap.size, 3, none⟩ = some (.i a3) ∧ w'.cell? ⟨w.heap.size + 1, 0, none⟩ = some (.i b0) ∧ w'.cell? ⟨w.heap.size + 1, 1, none⟩ = some (.b b1) ∧ w'.cell? ⟨w.heap.size + 1, 2, none⟩ = some (.u b2) ∧ w'.cell? ⟨w.heap.size + 1, 3, none⟩ = some (.i b3)) (ds := [4, 5]) (bq 6 0) (by kernel_rfl) rfl rfl ⟨BA.cell 0, BA.cell 1, BA.cell 2, BA.cell 3, BB.cell 0, BB.cell 1, BB.cell 2, BB.cell 3⟩ (fun hHeld => ?_)
 generalize (((w.alloc (.cells #[.i a0, .b a1, .u a2, .i a3] 32)).alloc (.cells #[.i b0, .b b1, .u b2, .i b3] 32)).drew) = W at BA BB HB hHeld ⊢
 refine tk 0 7 (bq 6 1) ?_ ?_ ?_ ?_ hHeld ?_
 rotate_left 2
 ·rintro w' ⟨s0_, s1_, s2_, s3_, s4_, s5_, s6_, s7_⟩
  go_simp
  with_reducible rfl
 ·simp only [Act.put, pA, pB, pC]
  rfl
 refine tk 2 9 (bq 6 5) ?_ ?_ ?_ ?_ hHeld ?_
 rotate_left 2
 ·rintro w' ⟨s0_, s1_, s2_, s3_, s4_, s5_, s6_, s7_⟩
  go_simp
  with_reducible rfl
 ·simp only [Act.put, pA, pB, pC]
  rfl
 refine on 1 8 (bq 6 7) (fun K hK => ?_)
 refine goes_ Tryz.func55 (by kernel_rfl) rfl #[.agg #[.i a0, .b a1, .u a2, .i a3]] (by first | rfl | go_simp) rfl rfl (by simp only [List.map_toArray, List.map_cons, List.map_nil] <;> rfl) ?_
 with_reducible refine (HF.out W).mono ?_
 rintro e w1 ⟨rfl, hb⟩
 refine ⟨_, rfl, ?_⟩
 have BA := BA.call hb
 have BB := BB.call hb
 have HB := bl_trans HB hb
 refine hK.out _ _ ⟨BA.cell 0, BA.cell 1, BA.cell 2, BA.cell 3, BB.cell 0, BB.cell 1, BB.cell 2, BB.cell 3⟩ (fun hHeld => ?_)
 clear hK K hb
 refine norm_ (a' := ?_) ?_ ?_
 rotate_left
 ·show Act.put _ (some 8) _ = _
  simp only [Act.put, pA, pB, pC]
  rfl
 refine on 3 10 (bq 6 15) (fun K hK => ?_)
 refine goes_ Tryz.func55 (by kernel_rfl) rfl #[.agg #[.i b0, .b b1, .u b2, .i b3]] (by first | rfl | go_simp) rfl rfl (by simp only [List.map_toArray, List.map_cons, List.map_nil] <;> rfl) ?_
 with_reducible refine (HG.out w1).mono ?_
 rintro e w2 ⟨rfl, hb⟩
 refine ⟨_, rfl, ?_⟩
 have BA := BA.call hb
 have BB := BB.call hb
 have HB := bl_trans HB hb
 refine hK.out _ _ ⟨BA.cell 0, BA.cell 1, BA.cell 2, BA.cell 3, BB.cell 0, BB.cell 1, BB.cell 2, BB.cell 3⟩ (fun hHeld => ?_)
 clear hK K hb
 refine norm_ (a' := ?_) ?_ ?_
 rotate_left
 ·show Act.put _ (some 10) _ = _
  simp only [Act.put, pA, pB, pC]
  rfl
 obtain ⟨⟨q0, q1, q2, q3⟩, ⟨f0, f1, f2, f3⟩⟩ := BA.c4
 obtain ⟨W3, hW3, BA3, hK3, hL3, hz3⟩ := put4 BA (.i c0) (.b c1) (.u c2) (.i c3)
 refine last_ (i := 4) (N := none) (bq 6 31) rfl rfl (by kernel_rfl) (by decide) (fun K hK => ?_)
 refine skip_ (w1 := ?_) (by rfl) rfl ?_ ?_
 rotate_left
 ·go_simp
  rfl
 refine hK.out _ _ ?_
 clear hK K
 have BB3 := hK3 _ _ _ (by simp) BB
 have HB3 := hL3 w HB (Nat.le_refl _)
 clear q0 q1 q2 q3 f0 f1 f2 f3 hW3 hK3 hL3 hz3
 obtain ⟨⟨q0, q1, q2, q3⟩, ⟨f0, f1, f2, f3⟩⟩ := BB3.c4
 obtain ⟨W4, hW4, BB4, hK4, hL4, hz4⟩ := put4 BB3 (.i d0) (.b d1) (.u d2) (.i d3)
 refine last_ (i := 5) (N := none) (bq 6 63) rfl rfl (by kernel_rfl) (by decide) (fun K hK => ?_)
 refine skip_ (w1 := ?_) (by rfl) rfl ?_ ?_
 rotate_left
 ·go_simp
  rfl
 refine hK.out _ _ ?_
 clear hK K
 have BA4 := hK4 _ _ _ (by simp) BA3
 have HB4 := hL4 w HB3 (by simp)
 clear q0 q1 q2 q3 f0 f1 f2 f3 hW4 hK4 hL4 hz4 BA BB BA3 BB3 HB HB3 hHeld
 refine done_ (by kernel_rfl) ?_
 go_wp2_with fail
 have BA := BA4.drew
 have BB := BB4.drew
 have HB := bl_drew HB4
 clear BA4 BB4 HB4
 refine start_ (n := 6) (S := fun w' => w'.cell? ⟨w.heap.size, 0, none⟩ = some (.i c0) ∧ w'.cell? ⟨w.heap.size, 1, none⟩ = some (.b c1) ∧ w'.cell? ⟨w.heap.size, 2, none⟩ = some (.u c2) ∧ w'.cell? ⟨w.heap.size, 3, none⟩ = some (.i c3) ∧ w'.cell? ⟨w.heap.size + 1, 0, none⟩ = some (.i d0) ∧ w'.cell? ⟨w.heap.size + 1, 1, none⟩ = some (.b d1) ∧ w'.cell? ⟨w.heap.size + 1, 2, none⟩ = some (.u d2) ∧ w'.cell? ⟨w.heap.size + 1, 3, none⟩ = some (.i d3)) (ds := []) (bq 6 0) (by kernel_rfl) rfl rfl ⟨BA.cell 0, BA.cell 1, BA.cell 2, BA.cell 3, BB.cell 0, BB.cell 1, BB.cell 2, BB.cell 3⟩ (fun hHeld => ?_)
 generalize W4.drew = W5 at BA BB HB hHeld ⊢
 refine tk 0 11 (bq 6 1) ?_ ?_ ?_ ?_ hHeld ?_
 rotate_left 2
 ·rintro w' ⟨s0_, s1_, s2_, s3_, s4_, s5_, s6_, s7_⟩
  go_simp
  with_reducible rfl
 ·simp only [Act.put, pA, pB, pC]
  rfl
 refine tk 2 13 (bq 6 5) ?_ ?_ ?_ ?_ hHeld ?_
 rotate_left 2
 ·rintro w' ⟨s0_, s1_, s2_, s3_, s4_, s5_, s6_, s7_⟩
  go_simp
  with_reducible rfl
 ·simp only [Act.put, pA, pB, pC]
  rfl
 refine on 1 12 (bq 6 7) (fun K hK => ?_)
 refine goes_ Tryz.func56 (by kernel_rfl) rfl #[.agg #[.i c0, .b c1, .u c2, .i c3]] (by first | rfl | go_simp) rfl rfl (by simp only [List.map_toArray, List.map_cons, List.map_nil] <;> rfl) ?_
 with_reducible refine (HS.out W5).mono ?_
 rintro e w6 ⟨rfl, hb⟩
 refine ⟨_, rfl, ?_⟩
 have BA := BA.call hb
 have BB := BB.call hb
 have HB := bl_trans HB hb
 refine hK.out _ _ ⟨BA.cell 0, BA.cell 1, BA.cell 2, BA.cell 3, BB.cell 0, BB.cell 1, BB.cell 2, BB.cell 3⟩ (fun hHeld => ?_)
 clear hK K hb
 refine norm_ (a' := ?_) ?_ ?_
 rotate_left
 ·show Act.put _ (some 12) _ = _
  simp only [Act.put, pA, pB, pC]
  rfl
 refine on 3 14 (bq 6 15) (fun K hK => ?_)
 refine goes_ Tryz.func56 (by kernel_rfl) rfl #[.agg #[.i d0, .b d1, .u d2, .i d3]] (by first | rfl | go_simp) rfl rfl (by simp only [List.map_toArray, List.map_cons, List.map_nil] <;> rfl) ?_
 with_reducible refine (HT.out w6).mono ?_
 rintro e w7 ⟨rfl, hb⟩
 refine ⟨_, rfl, ?_⟩
 have BA := BA.call hb
 have BB := BB.call hb
 have HB := bl_trans HB hb
 refine hK.out _ _ ⟨BA.cell 0, BA.cell 1, BA.cell 2, BA.cell 3, BB.cell 0, BB.cell 1, BB.cell 2, BB.cell 3⟩ (fun hHeld => ?_)
 clear hK K hb
 refine norm_ (a' := ?_) ?_ ?_
 rotate_left
 ·show Act.put _ (some 14) _ = _
  simp only [Act.put, pA, pB, pC]
  rfl
 refine pu 4 5 (bq 6 31) ?_ ?_ (fun _ => ?_) ?_ ?_
 rotate_left 2
 ·go_simp
  with_reducible rfl
 ·simp only [Act.put, pA, pB, pC]
  rfl
 refine pu 5 6 (bq 6 63) ?_ ?_ (fun _ => ?_) ?_ ?_
 rotate_left 2
 ·go_simp
  with_reducible rfl
 ·simp only [Act.put, pA, pB, pC]
  rfl
 refine done_ (by kernel_rfl) ?_
 clear hHeld
 obtain ⟨⟨q0, q1, q2, q3⟩, _⟩ := BA.c4
 obtain ⟨⟨r0, r1, r2, r3⟩, _⟩ := BB.c4
 go_wp2_with (go_at_call 57; first | ((with_reducible refine (HP.out _).mono ?_); rintro e w8 ⟨rfl, hb⟩; have BA8 := BA.call hb; have BB8 := BB.call hb; have HB8 := bl_trans HB hb; obtain ⟨⟨x0, x1, x2, x3⟩, _⟩ := BA8.c4; obtain ⟨⟨y0, y1, y2, y3⟩, _⟩ := BB8.c4; clear hb) | ((with_reducible refine (HQ.out _).mono ?_); rintro e w9 ⟨rfl, hb⟩; have HB9 := bl_trans HB8 hb; clear hb))
 all_goals go_ret
 all_goals exact ⟨by first | rfl | simp_all, by first | exact HB9 | exact HB8 | exact HB⟩
end Go.Proofs.YteabdeohhmbclaaGreat.Wk
