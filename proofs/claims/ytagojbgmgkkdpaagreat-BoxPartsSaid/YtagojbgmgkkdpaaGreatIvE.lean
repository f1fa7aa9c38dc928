/- Walks: iv.Meet, iv.Hull, for every slice of intervals (up to 2^41 of them). -/
import Derived.Test.YtagojbgmgkkdpaaGreatIvD
import Derived.Test.YtagojbgmgkkdpaaGreatNumC
namespace Go.Proofs.YtagojbgmgkkdpaaGreat.Wk
open Go.RowKit Go.Proofs.Pl Go.Proofs.YtagojbgmgkkdpaaGreatW.PrintLast
set_option linter.unusedSimpArgs false
set_option linter.unusedVariables false

theorem fulls_length (xs : List Iv) : (fulls xs).length ≤ xs.length := by
 unfold fulls
 exact Nat.le_trans (List.length_filter_le _ _) (by simp)

set_option maxRecDepth 100000 in
set_option maxHeartbeats 4000000 in
theorem meetI_calls (A : Option Addr) (n c : Nat) (xs : List Iv) (w : World) (hs : SlI w w.heap.size A n xs) (hn : n ≤ 2199023255552) :
  Calls Tryz.prog 38 #[.slice A n c] w fun e w' => e = .returned (.agg #[.bool (meetI xs).emp, .int .i64 ((meetI xs).lo).k, .bool ((meetI xs).lo).n, .int .u64 ((meetI xs).lo).m, .int .i64 ((meetI xs).lo).e, .int .i64 ((meetI xs).hi).k, .bool ((meetI xs).hi).n, .int .u64 ((meetI xs).hi).m, .int .i64 ((meetI xs).hi).e]) ∧ Below w.heap.size w w' := by
 have hfl := fulls_length xs
 rw [hs.1] at hfl
 have hm : (fulls xs).length ≤ 4611686018427387904 := by omega
 have HE := Lib.hid (fun W h => ends_calls A n c xs W h hn)
 have HP := Lib.hid (fun A1 c1 W h => mostN_calls A1 (fulls xs).length c1 ((fulls xs).map (·.lo)) W h hm)
 have HQ := Lib.hid (fun A1 c1 W h => leastN_calls A1 (fulls xs).length c1 ((fulls xs).map (·.hi)) W h hm)
 have HS := Lib.hid (show SlI (w.alloc (.cells #[.bool false, .int .i64 0, .bool false, .int .u64 0, .int .i64 0, .int .i64 0, .bool false, .int .u64 0, .int .i64 0] 39)) (w.alloc (.cells #[.bool false, .int .i64 0, .bool false, .int .u64 0, .int .i64 0, .int .i64 0, .bool false, .int .u64 0, .int .i64 0] 39)).heap.size A n xs from (hs.below (bl_alloc (Below.refl _ _) _)).more (by simp))
 clear hs hfl hm hn
 unfold meetI
 generalize mostN ((fulls xs).map (·.lo)) = x at HP ⊢
 generalize leastN ((fulls xs).map (·.hi)) = y at HQ ⊢
 obtain ⟨x0, x1, x2, x3⟩ := x
 obtain ⟨y0, y1, y2, y3⟩ := y
 dsimp only at HP HQ
 have HM := Lib.hid (fun W => makeI_calls x0 x1 x2 x3 y0 y1 y2 y3 W)
 generalize makeI ⟨x0, x1, x2, x3⟩ ⟨y0, y1, y2, y3⟩ = r at HM ⊢
 obtain ⟨r0, ⟨r1, r2, r3, r4⟩, ⟨r5, r6, r7, r8⟩⟩ := r
 dsimp only at HM
 unfold EndsPost at HE
 generalize endsAll xs = al at HE ⊢
 cases al
 ·show Calls _ _ _ _ fun e w' => e = .returned (.agg #[.bool true, .int .i64 0, .bool false, .int .u64 0, .int .i64 0, .int .i64 0, .bool false, .int .u64 0, .int .i64 0]) ∧ _
  go_enter Tryz.func38, Tryz.ntmps38
  go_wp2_with (first
   | (go_at_call 68; refine (HE.out _ HS.out).mono ?_; rintro e w1 ⟨A1, c1, A2, c2, rfl, S1, S2, hb⟩; have BR1 := (Blk.new w _ _).call hb; have HB1 := bl_trans (bl_alloc (Below.refl w.heap.size w) _) hb; have HS1 := Lib.hid S1; have HS2 := Lib.hid S2; clear hb S1 S2)
   | (go_at_call 45; refine (noneI_lit _).mono ?_; rintro e w2 ⟨rfl, hb⟩; have BR2 := BR1.call hb; have HB2 := bl_trans HB1 hb; obtain ⟨W3, hW3, B3, _, hL, hzz⟩ := put9 BR2 (.bool true) (.int .i64 0) (.bool false) (.int .u64 0) (.int .i64 0) (.int .i64 0) (.bool false) (.int .u64 0) (.int .i64 0); have HB3 := hL w HB2 (Nat.le_refl _); obtain ⟨⟨q0, q1, q2, q3, q4, q5, q6, q7, q8⟩, ⟨f0, f1, f2, f3, f4, f5, f6, f7, f8⟩⟩ := BR2.c9; clear hb BR1 BR2 HB1 HB2 hL hzz))
  exact bodyPost_ret (results_cell_row rfl _ _ w.heap.size 39 #[.bool true, .int .i64 0, .bool false, .int .u64 0, .int .i64 0, .int .i64 0, .bool false, .int .u64 0, .int .i64 0] (0, 0) _ rfl B3 Tryz.underlying39 rfl (by kernel_rfl)) rfl ⟨rfl, HB3⟩
 ·show Calls _ _ _ _ fun e w' => e = .returned (.agg #[.bool r0, .int .i64 r1, .bool r2, .int .u64 r3, .int .i64 r4, .int .i64 r5, .bool r6, .int .u64 r7, .int .i64 r8]) ∧ _
  go_enter Tryz.func38, Tryz.ntmps38
  go_wp2_with (first
   | (go_at_call 68; refine (HE.out _ HS.out).mono ?_; rintro e w1 ⟨A1, c1, A2, c2, rfl, S1, S2, hb⟩; have BR1 := (Blk.new w _ _).call hb; have HB1 := bl_trans (bl_alloc (Below.refl w.heap.size w) _) hb; have HS1 := Lib.hid S1; have HS2 := Lib.hid S2; clear hb S1 S2)
   | (go_at_call 69; refine (HP.out _ _ _ HS1.out).mono ?_; rintro e w2 ⟨rfl, hb⟩; have BR2 := BR1.call hb; have HB2 := bl_trans HB1 hb; have HT := Lib.hid ((HS2.out.below hb).more hb.size); clear hb)
   | (go_at_call 70; refine (HQ.out _ _ _ HT.out).mono ?_; rintro e w3 ⟨rfl, hb⟩; have BR3 := BR2.call hb; have HB3 := bl_trans HB2 hb; clear hb)
   | (go_at_call 36; refine (HM.out _).mono ?_; rintro e w4 ⟨rfl, hb⟩; have BR4 := BR3.call hb; have HB4 := bl_trans HB3 hb; obtain ⟨W5, hW5, B5, _, hL, hzz⟩ := put9 BR4 (.bool r0) (.int .i64 r1) (.bool r2) (.int .u64 r3) (.int .i64 r4) (.int .i64 r5) (.bool r6) (.int .u64 r7) (.int .i64 r8); have HB5 := hL w HB4 (Nat.le_refl _); obtain ⟨⟨q0, q1, q2, q3, q4, q5, q6, q7, q8⟩, ⟨f0, f1, f2, f3, f4, f5, f6, f7, f8⟩⟩ := BR4.c9; clear hb BR1 BR2 BR3 BR4 HB1 HB2 HB3 HB4 hL hzz))
  exact bodyPost_ret (results_cell_row rfl _ _ w.heap.size 39 #[.bool r0, .int .i64 r1, .bool r2, .int .u64 r3, .int .i64 r4, .int .i64 r5, .bool r6, .int .u64 r7, .int .i64 r8] (0, 0) _ rfl B5 Tryz.underlying39 rfl (by kernel_rfl)) rfl ⟨rfl, HB5⟩

set_option maxRecDepth 100000 in
set_option maxHeartbeats 4000000 in
theorem hullI_calls (A : Option Addr) (n c : Nat) (xs : List Iv) (w : World) (hs : SlI w w.heap.size A n xs) (hn : n ≤ 2199023255552) :
  Calls Tryz.prog 155 #[.slice A n c] w fun e w' => e = .returned (.agg #[.bool (hullI xs).emp, .int .i64 ((hullI xs).lo).k, .bool ((hullI xs).lo).n, .int .u64 ((hullI xs).lo).m, .int .i64 ((hullI xs).lo).e, .int .i64 ((hullI xs).hi).k, .bool ((hullI xs).hi).n, .int .u64 ((hullI xs).hi).m, .int .i64 ((hullI xs).hi).e]) ∧ Below w.heap.size w w' := by
 have hfl := fulls_length xs
 rw [hs.1] at hfl
 have hm : (fulls xs).length ≤ 4611686018427387904 := by omega
 have HE := Lib.hid (fun W h => ends_calls A n c xs W h hn)
 have HP := Lib.hid (fun A1 c1 W h => leastN_calls A1 (fulls xs).length c1 ((fulls xs).map (·.lo)) W h hm)
 have HQ := Lib.hid (fun A1 c1 W h => mostN_calls A1 (fulls xs).length c1 ((fulls xs).map (·.hi)) W h hm)
 have HS := Lib.hid (show SlI (w.alloc (.cells #[.bool false, .int .i64 0, .bool false, .int .u64 0, .int .i64 0, .int .i64 0, .bool false, .int .u64 0, .int .i64 0] 39)) (w.alloc (.cells #[.bool false, .int .i64 0, .bool false, .int .u64 0, .int .i64 0, .int .i64 0, .bool false, .int .u64 0, .int .i64 0] 39)).heap.size A n xs from (hs.below (bl_alloc (Below.refl _ _) _)).more (by simp))
 clear hs hfl hm hn
 unfold hullI
 generalize leastN ((fulls xs).map (·.lo)) = x at HP ⊢
 generalize mostN ((fulls xs).map (·.hi)) = y at HQ ⊢
 obtain ⟨x0, x1, x2, x3⟩ := x
 obtain ⟨y0, y1, y2, y3⟩ := y
 dsimp only at HP HQ
 have HM := Lib.hid (fun W => makeI_calls x0 x1 x2 x3 y0 y1 y2 y3 W)
 generalize makeI ⟨x0, x1, x2, x3⟩ ⟨y0, y1, y2, y3⟩ = r at HM ⊢
 obtain ⟨r0, ⟨r1, r2, r3, r4⟩, ⟨r5, r6, r7, r8⟩⟩ := r
 dsimp only at HM
 unfold EndsPost at HE
 by_cases hz : fulls xs = []
 ·rw [if_pos hz]
  show Calls _ _ _ _ fun e w' => e = .returned (.agg #[.bool true, .int .i64 0, .bool false, .int .u64 0, .int .i64 0, .int .i64 0, .bool false, .int .u64 0, .int .i64 0]) ∧ _
  rw [hz] at HE
  clear hz HP HQ
  go_enter Tryz.func155, Tryz.ntmps155
  go_wp2_with (first
   | (go_at_call 68; refine (HE.out _ HS.out).mono ?_; rintro e w1 ⟨A1, c1, A2, c2, rfl, S1, S2, hb⟩; have BR1 := (Blk.new w _ _).call hb; have HB1 := bl_trans (bl_alloc (Below.refl w.heap.size w) _) hb; have HS1 := Lib.hid S1; have HS2 := Lib.hid S2; clear hb S1 S2)
   | (go_at_call 45; refine (noneI_lit _).mono ?_; rintro e w2 ⟨rfl, hb⟩; have BR2 := BR1.call hb; have HB2 := bl_trans HB1 hb; obtain ⟨W3, hW3, B3, _, hL, hzz⟩ := put9 BR2 (.bool true) (.int .i64 0) (.bool false) (.int .u64 0) (.int .i64 0) (.int .i64 0) (.bool false) (.int .u64 0) (.int .i64 0); have HB3 := hL w HB2 (Nat.le_refl _); obtain ⟨⟨q0, q1, q2, q3, q4, q5, q6, q7, q8⟩, ⟨f0, f1, f2, f3, f4, f5, f6, f7, f8⟩⟩ := BR2.c9; clear hb BR1 BR2 HB1 HB2 hL hzz))
  exact bodyPost_ret (results_cell_row rfl _ _ w.heap.size 39 #[.bool true, .int .i64 0, .bool false, .int .u64 0, .int .i64 0, .int .i64 0, .bool false, .int .u64 0, .int .i64 0] (0, 0) _ rfl B3 Tryz.underlying39 rfl (by kernel_rfl)) rfl ⟨rfl, HB3⟩
 ·rw [if_neg hz]
  show Calls _ _ _ _ fun e w' => e = .returned (.agg #[.bool r0, .int .i64 r1, .bool r2, .int .u64 r3, .int .i64 r4, .int .i64 r5, .bool r6, .int .u64 r7, .int .i64 r8]) ∧ _
  have hlt : 0 < (fulls xs).length := List.length_pos_iff.2 hz
  clear hz
  have hle : ((((fulls xs).length : Nat) : Int) == 0) = false := beq_eq_false_iff_ne.2 (by omega)
  go_enter Tryz.func155, Tryz.ntmps155
  go_wp2_with (first
   | (go_at_call 68; refine (HE.out _ HS.out).mono ?_; rintro e w1 ⟨A1, c1, A2, c2, rfl, S1, S2, hb⟩; have BR1 := (Blk.new w _ _).call hb; have HB1 := bl_trans (bl_alloc (Below.refl w.heap.size w) _) hb; have HS1 := Lib.hid S1; have HS2 := Lib.hid S2; clear hb S1 S2)
   | (go_at_call 70; refine (HP.out _ _ _ HS1.out).mono ?_; rintro e w2 ⟨rfl, hb⟩; have BR2 := BR1.call hb; have HB2 := bl_trans HB1 hb; have HT := Lib.hid ((HS2.out.below hb).more hb.size); clear hb)
   | (go_at_call 69; refine (HQ.out _ _ _ HT.out).mono ?_; rintro e w3 ⟨rfl, hb⟩; have BR3 := BR2.call hb; have HB3 := bl_trans HB2 hb; clear hb)
   | (go_at_call 36; refine (HM.out _).mono ?_; rintro e w4 ⟨rfl, hb⟩; have BR4 := BR3.call hb; have HB4 := bl_trans HB3 hb; obtain ⟨W5, hW5, B5, _, hL, hzz⟩ := put9 BR4 (.bool r0) (.int .i64 r1) (.bool r2) (.int .u64 r3) (.int .i64 r4) (.int .i64 r5) (.bool r6) (.int .u64 r7) (.int .i64 r8); have HB5 := hL w HB4 (Nat.le_refl _); obtain ⟨⟨q0, q1, q2, q3, q4, q5, q6, q7, q8⟩, ⟨f0, f1, f2, f3, f4, f5, f6, f7, f8⟩⟩ := BR4.c9; clear hb BR1 BR2 BR3 BR4 HB1 HB2 HB3 HB4 hL hzz))
  exact bodyPost_ret (results_cell_row rfl _ _ w.heap.size 39 #[.bool r0, .int .i64 r1, .bool r2, .int .u64 r3, .int .i64 r4, .int .i64 r5, .bool r6, .int .u64 r7, .int .i64 r8] (0, 0) _ rfl B5 Tryz.underlying39 rfl (by kernel_rfl)) rfl ⟨rfl, HB5⟩
end Go.Proofs.YtagojbgmgkkdpaaGreat.Wk
