/- Walks: num.Neg, num.Cmp, for every number that comes in (no condition). -/
import Derived.Test.YtagojbgmgkkdpaaGreatNumA
namespace Go.Proofs.YtagojbgmgkkdpaaGreat.Wk
open Go.RowKit Go.Proofs.Pl Go.Proofs.YtagojbgmgkkdpaaGreatW.PrintLast
set_option linter.unusedSimpArgs false
set_option linter.unusedVariables false

set_option maxRecDepth 100000 in
set_option maxHeartbeats 2000000 in
theorem negN_calls (a0 : Int) (a1 : Bool) (a2 a3 : Int) (w : World) :
  Calls Tryz.prog 66 #[.agg #[.int .i64 a0, .bool a1, .int .u64 a2, .int .i64 a3]] w fun e w' => e = .returned (.agg #[.int .i64 (negN ⟨a0, a1, a2, a3⟩).k, .bool (negN ⟨a0, a1, a2, a3⟩).n, .int .u64 (negN ⟨a0, a1, a2, a3⟩).m, .int .i64 (negN ⟨a0, a1, a2, a3⟩).e]) ∧ Below w.heap.size w w' := by
 unfold negN
 have HF := Lib.hid (fun W => fairN_calls a0 a1 a2 a3 W)
 generalize fairN ⟨a0, a1, a2, a3⟩ = F at HF ⊢
 obtain ⟨c0, c1, c2, c3⟩ := F
 dsimp only at HF ⊢
 by_cases hk : c0 = 0
 ·subst hk
  go_enter Tryz.func66, Tryz.ntmps66
  go_wp2_with (go_at_call 50; refine (HF.out _).mono ?_; rintro e w1 ⟨rfl, hb⟩; have HB := bl_trans (bl_alloc (bl_alloc (Below.refl w.heap.size w) _) _) hb; have BX1 := ((Blk.new w _ _).alloc _).call hb; have BR1 := (Blk.new1 w _ _ _).call hb; obtain ⟨W2, hW2, BX, hK, hBl, hsz⟩ := put4 BX1 (.int .i64 0) (.bool c1) (.int .u64 c2) (.int .i64 c3); have BR := hK _ _ _ (by simp) BR1; have HB2 := hBl w HB (Nat.le_refl _); obtain ⟨⟨q0, q1, q2, q3⟩, ⟨f0, f1, f2, f3⟩⟩ := BX1.c4; obtain ⟨⟨r0, r1, r2, r3⟩, ⟨g0, g1, g2, g3⟩⟩ := BR.c4; obtain ⟨⟨s0, s1, s2, s3⟩, ⟨t0, t1, t2, t3⟩⟩ := BX.c4; clear hb HB BX1 BR1 BX BR hK hBl hsz)
  refine bodyPost_ret (v := _) (by simp [results, Tryz.results66, go_sem, r0, r1, r2, r3]; rfl) rfl ⟨by simp [negF], ?_⟩
  repeat (first | exact HB2 | refine bl_set ?_ (by simp) _ | apply bl_alloc)
 ·have hk1 : (c0 == 0) = false := beq_eq_false_iff_ne.2 hk
  have hk2 : (c0 != 0) = true := bne_iff_ne.2 hk
  clear hk
  go_enter Tryz.func66, Tryz.ntmps66
  go_wp2_with (go_at_call 50; refine (HF.out _).mono ?_; rintro e w1 ⟨rfl, hb⟩; have HB := bl_trans (bl_alloc (bl_alloc (Below.refl w.heap.size w) _) _) hb; have BX1 := ((Blk.new w _ _).alloc _).call hb; have BR1 := (Blk.new1 w _ _ _).call hb; obtain ⟨W2, hW2, BX, hK, hBl, hsz⟩ := put4 BX1 (.int .i64 c0) (.bool c1) (.int .u64 c2) (.int .i64 c3); have BR := hK _ _ _ (by simp) BR1; have HB2 := hBl w HB (Nat.le_refl _); obtain ⟨⟨q0, q1, q2, q3⟩, ⟨f0, f1, f2, f3⟩⟩ := BX1.c4; obtain ⟨⟨r0, r1, r2, r3⟩, ⟨g0, g1, g2, g3⟩⟩ := BR.c4; obtain ⟨⟨s0, s1, s2, s3⟩, ⟨t0, t1, t2, t3⟩⟩ := BX.c4; clear hb HB BX1 BR1 BX BR hK hBl hsz)
  refine bodyPost_ret (v := _) (by simp [results, Tryz.results66, go_sem, r0, r1, r2, r3]; rfl) rfl ⟨by simp [negF, hk1], ?_⟩
  repeat (first | exact HB2 | refine bl_set ?_ (by simp) _ | apply bl_alloc)


theorem signN_bd (x : Num) : -1 ≤ signN x ∧ signN x ≤ 1 := by
 unfold signN signF
 split
 ·omega
 ·split <;> omega

set_option maxRecDepth 100000 in
set_option maxHeartbeats 2000000 in
theorem cmpN_calls (a0 : Int) (a1 : Bool) (a2 a3 : Int) (b0 : Int) (b1 : Bool) (b2 b3 : Int) (w : World) :
  Calls Tryz.prog 24 #[.agg #[.int .i64 a0, .bool a1, .int .u64 a2, .int .i64 a3], .agg #[.int .i64 b0, .bool b1, .int .u64 b2, .int .i64 b3]] w fun e w' => e = .returned (.int .i64 (cmpN ⟨a0, a1, a2, a3⟩ ⟨b0, b1, b2, b3⟩)) ∧ Below w.heap.size w w' := by
 unfold cmpN
 have HF := Lib.hid (fun W => fairN_calls a0 a1 a2 a3 W)
 have HG := Lib.hid (fun W => fairN_calls b0 b1 b2 b3 W)
 generalize fairN ⟨a0, a1, a2, a3⟩ = F at HF ⊢
 generalize fairN ⟨b0, b1, b2, b3⟩ = G at HG ⊢
 obtain ⟨c0, c1, c2, c3⟩ := F
 obtain ⟨d0, d1, d2, d3⟩ := G
 dsimp only at HF HG
 unfold cmpF
 have HS := Lib.hid (fun W => signN_calls c0 c1 c2 c3 W)
 have HT := Lib.hid (fun W => signN_calls d0 d1 d2 d3 W)
 have HP := Lib.hid (fun W => farN_calls c0 c1 c2 c3 d0 d1 d2 d3 W)
 have HQ := Lib.hid (fun W => farN_calls d0 d1 d2 d3 c0 c1 c2 c3 W)
 have sb := signN_bd ⟨c0, c1, c2, c3⟩
 generalize signN ⟨c0, c1, c2, c3⟩ = s at HS sb ⊢
 generalize signN ⟨d0, d1, d2, d3⟩ = t at HT ⊢
 generalize farN ⟨c0, c1, c2, c3⟩ ⟨d0, d1, d2, d3⟩ = p at HP ⊢
 generalize farN ⟨d0, d1, d2, d3⟩ ⟨c0, c1, c2, c3⟩ = q at HQ ⊢
 obtain ⟨sb0, sb1⟩ := sb
 go_enter Tryz.func24, Tryz.ntmps24
 go_wp2_with fail
 have BA := ((Blk.new w 37 #[.int .i64 a0, .bool a1, .int .u64 a2, .int .i64 a3]).alloc (.cells #[.int .i64 b0, .bool b1, .int .u64 b2, .int .i64 b3] 37)).drew
 have BB := (Blk.new1 w (.cells #[.int .i64 a0, .bool a1, .int .u64 a2, .int .i64 a3] 37) 37 #[.int .i64 b0, .bool b1, .int .u64 b2, .int .i64 b3]).drew
 have HB := bl_drew (bl_alloc (bl_alloc (Below.refl w.heap.size w) (.cells #[.int .i64 a0, .bool a1, .int .u64 a2, .int .i64 a3] 37)) (.cells #[.int .i64 b0, .bool b1, .int .u64 b2, .int .i64 b3] 37))
 refine start_ (n := 6) (S := fun w' => w'.cell? ⟨w.heap.size, 0, none⟩ = some (.int .i64 a0) ∧ w'.cell? ⟨w.heap.size, 1, none⟩ = some (.bool a1) ∧ w'.cell? ⟨w.heap.size, 2, none⟩ = some (.int .u64 a2) ∧ w'.cell? ⟨w.heap.size, 3, none⟩ = some (.int .i64 a3) ∧ w'.cell? ⟨w.heap.size + 1, 0, none⟩ = some (.int .i64 b0) ∧ w'.cell? ⟨w.heap.size + 1, 1, none⟩ = some (.bool b1) ∧ w'.cell? ⟨w.heap.size + 1, 2, none⟩ = some (.int .u64 b2) ∧ w'.cell? ⟨w.heap.size + 1, 3, none⟩ = some (.int .i64 b3)) (ds := [4, 5]) (bq 6 0) (by kernel_rfl) rfl rfl ⟨BA.cell 0, BA.cell 1, BA.cell 2, BA.cell 3, BB.cell 0, BB.cell 1, BB.cell 2, BB.cell 3⟩ (fun hHeld => ?_)
 generalize (((w.alloc (.cells #[.int .i64 a0, .bool a1, .int .u64 a2, .int .i64 a3] 37)).alloc (.cells #[.int .i64 b0, .bool b1, .int .u64 b2, .int .i64 b3] 37)).drew) = W at BA BB HB hHeld ⊢
 refine take_ (i := 0) (N := some 7) (v := ?_) (a' := ?_) (bq 6 1) rfl rfl (by kernel_rfl) (fun _ _ _ h => h) (Or.inl ⟨by rfl, ?_⟩) hHeld ?_ ?_
 rotate_left
 ·rintro w' ⟨s0_, s1_, s2_, s3_, s4_, s5_, s6_, s7_⟩
  go_simp
  with_reducible rfl
 rotate_left
 ·simp only [Act.put, pA, pB, pC]
  rfl
 refine take_ (i := 2) (N := some 9) (v := ?_) (a' := ?_) (bq 6 5) rfl rfl (by kernel_rfl) (fun _ _ _ h => h) (Or.inl ⟨by rfl, ?_⟩) hHeld ?_ ?_
 rotate_left
 ·rintro w' ⟨s0_, s1_, s2_, s3_, s4_, s5_, s6_, s7_⟩
  go_simp
  with_reducible rfl
 rotate_left
 ·simp only [Act.put, pA, pB, pC]
  rfl
 refine one_ (i := 1) (N := some 8) (bq 6 7) rfl rfl (by kernel_rfl) (by decide) (fun K hK => ?_)
 refine goes_ Tryz.func50 (by kernel_rfl) rfl #[.agg #[.int .i64 a0, .bool a1, .int .u64 a2, .int .i64 a3]] (by first | rfl | go_simp) rfl rfl (by simp only [List.map_toArray, List.map_cons, List.map_nil] <;> rfl) ?_
 with_reducible refine (HF.out W).mono ?_
 rintro e w1 ⟨rfl, hb⟩
 refine ⟨_, rfl, ?_⟩
 have BA := BA.call hb
 have BB := BB.call hb
 have HB := bl_trans HB hb
 refine hK.out _ _ ⟨BA.cell 0, BA.cell 1, BA.cell 2, BA.cell 3, BB.cell 0, BB.cell 1, BB.cell 2, BB.cell 3⟩ (fun hHeld => ?_)
 clear hK K hb
 refine norm_ (a' := ?_) ?_ ?_
 rotate_left
 ·show Act.put _ (some 8) _ = _
  simp only [Act.put, pA, pB, pC]
  rfl
 refine one_ (i := 3) (N := some 10) (bq 6 15) rfl rfl (by kernel_rfl) (by decide) (fun K hK => ?_)
 refine goes_ Tryz.func50 (by kernel_rfl) rfl #[.agg #[.int .i64 b0, .bool b1, .int .u64 b2, .int .i64 b3]] (by first | rfl | go_simp) rfl rfl (by simp only [List.map_toArray, List.map_cons, List.map_nil] <;> rfl) ?_
 with_reducible refine (HG.out w1).mono ?_
 rintro e w2 ⟨rfl, hb⟩
 refine ⟨_, rfl, ?_⟩
 have BA := BA.call hb
 have BB := BB.call hb
 have HB := bl_trans HB hb
 refine hK.out _ _ ⟨BA.cell 0, BA.cell 1, BA.cell 2, BA.cell 3, BB.cell 0, BB.cell 1, BB.cell 2, BB.cell 3⟩ (fun hHeld => ?_)
 clear hK K hb
 refine norm_ (a' := ?_) ?_ ?_
 rotate_left
 ·show Act.put _ (some 10) _ = _
  simp only [Act.put, pA, pB, pC]
  rfl
 obtain ⟨⟨q0, q1, q2, q3⟩, ⟨f0, f1, f2, f3⟩⟩ := BA.c4
 obtain ⟨W3, hW3, BA3, hK3, hL3, hz3⟩ := put4 BA (.int .i64 c0) (.bool c1) (.int .u64 c2) (.int .i64 c3)
 refine last_ (i := 4) (N := none) (bq 6 31) rfl rfl (by kernel_rfl) (by decide) (fun K hK => ?_)
 refine skip_ (w1 := ?_) (by rfl) rfl ?_ ?_
 rotate_left
 ·go_simp
  rfl
 refine hK.out _ _ ?_
 clear hK K
 have BB3 := hK3 _ _ _ (by simp) BB
 have HB3 := hL3 w HB (Nat.le_refl _)
 clear q0 q1 q2 q3 f0 f1 f2 f3 hW3 hK3 hL3 hz3
 obtain ⟨⟨q0, q1, q2, q3⟩, ⟨f0, f1, f2, f3⟩⟩ := BB3.c4
 obtain ⟨W4, hW4, BB4, hK4, hL4, hz4⟩ := put4 BB3 (.int .i64 d0) (.bool d1) (.int .u64 d2) (.int .i64 d3)
 refine last_ (i := 5) (N := none) (bq 6 63) rfl rfl (by kernel_rfl) (by decide) (fun K hK => ?_)
 refine skip_ (w1 := ?_) (by rfl) rfl ?_ ?_
 rotate_left
 ·go_simp
  rfl
 refine hK.out _ _ ?_
 clear hK K
 have BA4 := hK4 _ _ _ (by simp) BA3
 have HB4 := hL4 w HB3 (by simp)
 clear q0 q1 q2 q3 f0 f1 f2 f3 hW4 hK4 hL4 hz4 BA BB BA3 BB3 HB HB3 hHeld
 refine done_ (by kernel_rfl) ?_
 go_wp2_with fail
 have BA := BA4.drew
 have BB := BB4.drew
 have HB := bl_drew HB4
 clear BA4 BB4 HB4
 refine start_ (n := 6) (S := fun w' => w'.cell? ⟨w.heap.size, 0, none⟩ = some (.int .i64 c0) ∧ w'.cell? ⟨w.heap.size, 1, none⟩ = some (.bool c1) ∧ w'.cell? ⟨w.heap.size, 2, none⟩ = some (.int .u64 c2) ∧ w'.cell? ⟨w.heap.size, 3, none⟩ = some (.int .i64 c3) ∧ w'.cell? ⟨w.heap.size + 1, 0, none⟩ = some (.int .i64 d0) ∧ w'.cell? ⟨w.heap.size + 1, 1, none⟩ = some (.bool d1) ∧ w'.cell? ⟨w.heap.size + 1, 2, none⟩ = some (.int .u64 d2) ∧ w'.cell? ⟨w.heap.size + 1, 3, none⟩ = some (.int .i64 d3)) (ds := []) (bq 6 0) (by kernel_rfl) rfl rfl ⟨BA.cell 0, BA.cell 1, BA.cell 2, BA.cell 3, BB.cell 0, BB.cell 1, BB.cell 2, BB.cell 3⟩ (fun hHeld => ?_)
 generalize W4.drew = W5 at BA BB HB hHeld ⊢
 refine take_ (i := 0) (N := some 11) (v := ?_) (a' := ?_) (bq 6 1) rfl rfl (by kernel_rfl) (fun _ _ _ h => h) (Or.inl ⟨by rfl, ?_⟩) hHeld ?_ ?_
 rotate_left
 ·rintro w' ⟨s0_, s1_, s2_, s3_, s4_, s5_, s6_, s7_⟩
  go_simp
  with_reducible rfl
 rotate_left
 ·simp only [Act.put, pA, pB, pC]
  rfl
 refine take_ (i := 2) (N := some 13) (v := ?_) (a' := ?_) (bq 6 5) rfl rfl (by kernel_rfl) (fun _ _ _ h => h) (Or.inl ⟨by rfl, ?_⟩) hHeld ?_ ?_
 rotate_left
 ·rintro w' ⟨s0_, s1_, s2_, s3_, s4_, s5_, s6_, s7_⟩
  go_simp
  with_reducible rfl
 rotate_left
 ·simp only [Act.put, pA, pB, pC]
  rfl
 refine one_ (i := 1) (N := some 12) (bq 6 7) rfl rfl (by kernel_rfl) (by decide) (fun K hK => ?_)
 refine goes_ Tryz.func51 (by kernel_rfl) rfl #[.agg #[.int .i64 c0, .bool c1, .int .u64 c2, .int .i64 c3]] (by first | rfl | go_simp) rfl rfl (by simp only [List.map_toArray, List.map_cons, List.map_nil] <;> rfl) ?_
 with_reducible refine (HS.out W5).mono ?_
 rintro e w6 ⟨rfl, hb⟩
 refine ⟨_, rfl, ?_⟩
 have BA := BA.call hb
 have BB := BB.call hb
 have HB := bl_trans HB hb
 refine hK.out _ _ ⟨BA.cell 0, BA.cell 1, BA.cell 2, BA.cell 3, BB.cell 0, BB.cell 1, BB.cell 2, BB.cell 3⟩ (fun hHeld => ?_)
 clear hK K hb
 refine norm_ (a' := ?_) ?_ ?_
 rotate_left
 ·show Act.put _ (some 12) _ = _
  simp only [Act.put, pA, pB, pC]
  rfl
 refine one_ (i := 3) (N := some 14) (bq 6 15) rfl rfl (by kernel_rfl) (by decide) (fun K hK => ?_)
 refine goes_ Tryz.func51 (by kernel_rfl) rfl #[.agg #[.int .i64 d0, .bool d1, .int .u64 d2, .int .i64 d3]] (by first | rfl | go_simp) rfl rfl (by simp only [List.map_toArray, List.map_cons, List.map_nil] <;> rfl) ?_
 with_reducible refine (HT.out w6).mono ?_
 rintro e w7 ⟨rfl, hb⟩
 refine ⟨_, rfl, ?_⟩
 have BA := BA.call hb
 have BB := BB.call hb
 have HB := bl_trans HB hb
 refine hK.out _ _ ⟨BA.cell 0, BA.cell 1, BA.cell 2, BA.cell 3, BB.cell 0, BB.cell 1, BB.cell 2, BB.cell 3⟩ (fun hHeld => ?_)
 clear hK K hb
 refine norm_ (a' := ?_) ?_ ?_
 rotate_left
 ·show Act.put _ (some 14) _ = _
  simp only [Act.put, pA, pB, pC]
  rfl
 refine pure_ (i := 4) (N := some 5) (v := ?_) (a' := ?_) (bq 6 31) rfl rfl (by kernel_rfl) (fun _ _ _ h => h) (Or.inl ⟨by rfl, ?_⟩) ?_ ?_
 rotate_left
 ·intro w'
  go_simp
  with_reducible rfl
 rotate_left
 ·simp only [Act.put, pA, pB, pC]
  rfl
 refine pure_ (i := 5) (N := some 6) (v := ?_) (a' := ?_) (bq 6 63) rfl rfl (by kernel_rfl) (fun _ _ _ h => h) (Or.inl ⟨by rfl, ?_⟩) ?_ ?_
 rotate_left
 ·intro w'
  go_simp
  with_reducible rfl
 rotate_left
 ·simp only [Act.put, pA, pB, pC]
  rfl
 refine done_ (by kernel_rfl) ?_
 clear hHeld
 obtain ⟨⟨q0, q1, q2, q3⟩, _⟩ := BA.c4
 obtain ⟨⟨r0, r1, r2, r3⟩, _⟩ := BB.c4
 go_wp2_with (go_at_call 52; first | ((with_reducible refine (HP.out _).mono ?_); rintro e w8 ⟨rfl, hb⟩; have BA8 := BA.call hb; have BB8 := BB.call hb; have HB8 := bl_trans HB hb; obtain ⟨⟨x0, x1, x2, x3⟩, _⟩ := BA8.c4; obtain ⟨⟨y0, y1, y2, y3⟩, _⟩ := BB8.c4; clear hb) | ((with_reducible refine (HQ.out _).mono ?_); rintro e w9 ⟨rfl, hb⟩; have HB9 := bl_trans HB8 hb; clear hb))
 all_goals go_ret
 all_goals exact ⟨by first | rfl | simp_all, by first | exact HB9 | exact HB8 | exact HB⟩
end Go.Proofs.YtagojbgmgkkdpaaGreat.Wk
