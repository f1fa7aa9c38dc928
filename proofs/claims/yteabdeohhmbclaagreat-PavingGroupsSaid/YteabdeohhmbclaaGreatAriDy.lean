/- Walk: arith.plus. -/
import Derived.Test.YteabdeohhmbclaaGreatAriXy
import Derived.Test.YteabdeohhmbclaaGreatPureAy
import Derived.Laws.BitsAllLaws
namespace Go.Proofs.YteabdeohhmbclaaGreat.Wk
open Go.RowKit Go.Proofs.Pl Go.Proofs.YteabdeohhmbclaaGreatW.PrintLast
set_option linter.unusedSimpArgs false
set_option linter.unusedVariables false

theorem add64_lt (x y : Nat) (h : x + y < 18446744073709551616) (w : World) :
  (callFunc 96 #[.u x, .u y, .u 0]).run Tryz.prog w = .ok (.value (.tuple #[.u ((x + y : Nat) : Int), .u 0])) w := by
 have := add64_run x y 0 (by omega) w
 rw [Nat.add_zero, Nat.mod_eq_of_lt h, Nat.div_eq_of_lt h] at this
 exact this
theorem add64_ge (x y : Nat) (h : 18446744073709551616 ≤ x + y) (h2 : x + y < 36893488147419103232) (w : World) :
  (callFunc 96 #[.u x, .u y, .u 0]).run Tryz.prog w = .ok (.value (.tuple #[.u ((x + y - 18446744073709551616 : Nat) : Int), .u 1])) w := by
 have := add64_run x y 0 (by omega) w
 rw [Nat.add_zero, show (x + y) % 18446744073709551616 = x + y - 18446744073709551616 from by omega, show (x + y) / 18446744073709551616 = 1 from by omega] at this
 exact this
theorem and_one (q : Nat) (hq : q < 18446744073709551616) : bits .and .u64 (q : Int) 1 = ((q % 2 : Nat) : Int) := by
 rw [u64_and (q : Int) 1 (by omega) (by omega) (by omega) (by omega)]
 simp [Nat.and_one_is_mod]
theorem or_top (y : Nat) (hy : y < 9223372036854775808) : bits .or .u64 (y : Int) 9223372036854775808 = ((y + 9223372036854775808 : Nat) : Int) := by
 rw [u64_or (y : Int) 9223372036854775808 (by omega) (by omega) (by omega) (by omega)]
 have := Nat.two_pow_add_eq_or_of_lt (i := 63) (b := y) (by omega) 1
 simp only [Int.toNat_natCast]
 rw [show (9223372036854775808 : Int).toNat = 2 ^ 63 * 1 from by decide, Nat.or_comm, ← this]
 omega
set_option maxRecDepth 100000 in
set_option maxHeartbeats 4000000 in
theorem plus_calls (n n' : Bool) (M m : Nat) (ea eb : Int) (d : Nat) (up : Bool) (hM0 : 9223372036854775808 ≤ M) (hM : M < 18446744073709551616) (hm0 : 0 < m) (hm : m < 18446744073709551616) (ha0 : -1048576 ≤ ea) (ha1 : ea ≤ 1048576) (hb0 : -1048576 ≤ eb) (hb1 : eb ≤ 1048576) (hd : ea - eb = d) (w : World) :
  Calls Tryz.prog 83 #[.agg #[.i 1, .b n, .u M, .i ea], .agg #[.i 1, .b n', .u m, .i eb], .b up] w fun x w' => x = .returned (.agg #[.i (plusN n M m ea d up).k, .b (plusN n M m ea d up).n, .u (plusN n M m ea d up).m, .i (plusN n M m ea d up).e]) ∧ Below w.heap.size w w' := by
 obtain ⟨rem, h1, h2, h3, h4, h5⟩ := low_spec 18446744073709551616 rfl m d hm0 hm
 have HL := Lib.hid (fun W => lower_calls m d hm (by omega) W)
 unfold plusN
 clear h1 h2 h3
 generalize lowHi m d = hi at HL h4 ⊢
 generalize lowLo m d = lo at HL h5 ⊢
 have elo : decide (lo ≠ 0) = decide ((lo : Int) ≠ 0) := by rw [Bool.eq_iff_iff, decide_eq_true_iff, decide_eq_true_iff]; omega
 rw [elo]
 clear h5 elo
 generalize (lo : Int) = lz at HL ⊢
 generalize lowCut m d = ct at HL ⊢
 have X0 := ((Blk.new w 32 #[.i 1, .b n, .u M, .i ea]).alloc (.cells #[.i 1, .b n', .u m, .i eb] 32)).alloc (.cells #[.i 0, .b false, .u 0, .i 0] 32)
 have BR0 := Blk.new2 w (.cells #[.i 1, .b n, .u M, .i ea] 32) (.cells #[.i 1, .b n', .u m, .i eb] 32) 32 #[.i 0, .b false, .u 0, .i 0]
 have HB0 := bl_alloc (bl_alloc (bl_alloc (Below.refl w.heap.size w) (.cells #[.i 1, .b n, .u M, .i ea] 32)) (.cells #[.i 1, .b n', .u m, .i eb] 32)) (.cells #[.i 0, .b false, .u 0, .i 0] 32)
 by_cases hS : M + hi < 18446744073709551616
 ·rw [if_pos hS]
  have HA := fun W => add64_lt M hi hS W
  have hSi : ((M + hi : Nat) : Int) < 18446744073709551616 := by omega
  generalize M + hi = q at HA hS hSi ⊢
  clear h4
  cases ct
  ·by_cases hl : lz = 0
   ·subst hl
    rw [show (false || decide ((0 : Int) ≠ 0)) = false from rfl]
    have HG := Lib.hid (fun W => grow_calls n (q : Int) ea false (up != n) (by omega) hSi (by omega) (by omega) W)
    generalize growN n (q : Int) ea false (up != n) = r at HG ⊢
    go_enter Tryz.func83, Tryz.ntmps83
    go_wp2_with (first
     | (go_at_call 95; (refine (HL.out _).mono ?_); rintro e' w1 ⟨rfl, hb⟩; have HB1 := bl_trans HB0 hb; have X1 := X0.call hb; have BR1 := BR0.call hb; have hx1 := X1.lt; have hx2 := BR1.lt; clear hb)
     | (refine wpList_stG rfl 125 (.tmp 7) (.tmp 19) rfl w1.heap.size _ #[.u hi, .u 0, .b false] (Blk.new w1 _ _) rfl rfl (by kernel_rfl) rfl (by simp [Value.oneCell']) ?_; intro W2 D2 P2; have X2 := P2.blk (X1.alloc _) (by omega); have BR2 := P2.blk (BR1.alloc _) (by omega); have HB2 := P2.bel (bl_alloc HB1 _) (by omega); obtain ⟨⟨a0, a1, a2, a3⟩, _⟩ := X2.c4; have d0 := D2.cell 0; have d1 := D2.cell 1; have d2 := D2.cell 2; simp only [List.getElem?_toArray, List.getElem?_cons_zero, List.getElem?_cons_succ] at d0 d1 d2)
     | (go_at_call 97; (refine (HG.out _).mono ?_); rintro e' w3 ⟨rfl, hb⟩; have HB3 := bl_trans HB2 hb; have BR3 := BR2.call hb; clear hb a0 a1 a2 a3 d0 d1 d2)
     | (refine wpList_stG rfl 32 (.tmp 6) (.tmp 59) rfl (w.heap.size + 1 + 1) _ #[.i r.k, .b r.n, .u r.m, .i r.e] BR3 rfl rfl (by kernel_rfl) rfl (by simp [Value.oneCell']) ?_; intro W4 B4 P4; have HB4 := P4.bel HB3 (by omega)))
    exact bodyPost_ret (results_cell_row rfl _ _ (w.heap.size + 1 + 1) 32 _ (0, 0) _ rfl B4 Tryz.underlying32 rfl (by kernel_rfl)) rfl ⟨rfl, HB4⟩
   ·have hl1 : (lz != 0) = true := bne_iff_ne.2 hl
    rw [show (false || decide (lz ≠ 0)) = true from by simp [hl]]
    have HG := Lib.hid (fun W => grow_calls n (q : Int) ea true (up != n) (by omega) hSi (by omega) (by omega) W)
    generalize growN n (q : Int) ea true (up != n) = r at HG ⊢
    go_enter Tryz.func83, Tryz.ntmps83
    go_wp2_with (first
     | (go_at_call 95; (refine (HL.out _).mono ?_); rintro e' w1 ⟨rfl, hb⟩; have HB1 := bl_trans HB0 hb; have X1 := X0.call hb; have BR1 := BR0.call hb; have hx1 := X1.lt; have hx2 := BR1.lt; clear hb)
     | (refine wpList_stG rfl 125 (.tmp 7) (.tmp 19) rfl w1.heap.size _ #[.u hi, .u lz, .b false] (Blk.new w1 _ _) rfl rfl (by kernel_rfl) rfl (by simp [Value.oneCell']) ?_; intro W2 D2 P2; have X2 := P2.blk (X1.alloc _) (by omega); have BR2 := P2.blk (BR1.alloc _) (by omega); have HB2 := P2.bel (bl_alloc HB1 _) (by omega); obtain ⟨⟨a0, a1, a2, a3⟩, _⟩ := X2.c4; have d0 := D2.cell 0; have d1 := D2.cell 1; have d2 := D2.cell 2; simp only [List.getElem?_toArray, List.getElem?_cons_zero, List.getElem?_cons_succ] at d0 d1 d2)
     | (go_at_call 97; (refine (HG.out _).mono ?_); rintro e' w3 ⟨rfl, hb⟩; have HB3 := bl_trans HB2 hb; have BR3 := BR2.call hb; clear hb a0 a1 a2 a3 d0 d1 d2)
     | (refine wpList_stG rfl 32 (.tmp 6) (.tmp 59) rfl (w.heap.size + 1 + 1) _ #[.i r.k, .b r.n, .u r.m, .i r.e] BR3 rfl rfl (by kernel_rfl) rfl (by simp [Value.oneCell']) ?_; intro W4 B4 P4; have HB4 := P4.bel HB3 (by omega)))
    exact bodyPost_ret (results_cell_row rfl _ _ (w.heap.size + 1 + 1) 32 _ (0, 0) _ rfl B4 Tryz.underlying32 rfl (by kernel_rfl)) rfl ⟨rfl, HB4⟩
  ·rw [Bool.true_or]
   have HG := Lib.hid (fun W => grow_calls n (q : Int) ea true (up != n) (by omega) hSi (by omega) (by omega) W)
   generalize growN n (q : Int) ea true (up != n) = r at HG ⊢
   go_enter Tryz.func83, Tryz.ntmps83
   go_wp2_with (first
    | (go_at_call 95; (refine (HL.out _).mono ?_); rintro e' w1 ⟨rfl, hb⟩; have HB1 := bl_trans HB0 hb; have X1 := X0.call hb; have BR1 := BR0.call hb; have hx1 := X1.lt; have hx2 := BR1.lt; clear hb)
    | (refine wpList_stG rfl 125 (.tmp 7) (.tmp 19) rfl w1.heap.size _ #[.u hi, .u lz, .b true] (Blk.new w1 _ _) rfl rfl (by kernel_rfl) rfl (by simp [Value.oneCell']) ?_; intro W2 D2 P2; have X2 := P2.blk (X1.alloc _) (by omega); have BR2 := P2.blk (BR1.alloc _) (by omega); have HB2 := P2.bel (bl_alloc HB1 _) (by omega); obtain ⟨⟨a0, a1, a2, a3⟩, _⟩ := X2.c4; have d0 := D2.cell 0; have d1 := D2.cell 1; have d2 := D2.cell 2; simp only [List.getElem?_toArray, List.getElem?_cons_zero, List.getElem?_cons_succ] at d0 d1 d2)
    | (go_at_call 97; (refine (HG.out _).mono ?_); rintro e' w3 ⟨rfl, hb⟩; have HB3 := bl_trans HB2 hb; have BR3 := BR2.call hb; clear hb a0 a1 a2 a3 d0 d1 d2)
    | (refine wpList_stG rfl 32 (.tmp 6) (.tmp 59) rfl (w.heap.size + 1 + 1) _ #[.i r.k, .b r.n, .u r.m, .i r.e] BR3 rfl rfl (by kernel_rfl) rfl (by simp [Value.oneCell']) ?_; intro W4 B4 P4; have HB4 := P4.bel HB3 (by omega)))
   exact bodyPost_ret (results_cell_row rfl _ _ (w.heap.size + 1 + 1) 32 _ (0, 0) _ rfl B4 Tryz.underlying32 rfl (by kernel_rfl)) rfl ⟨rfl, HB4⟩
 ·rw [if_neg hS]
  have hS2 : M + hi < 36893488147419103232 := by omega
  have HA := fun W => add64_ge M hi (by omega) hS2 W
  obtain ⟨q, hq⟩ : ∃ q, M + hi = q + 18446744073709551616 := ⟨M + hi - 18446744073709551616, by omega⟩
  rw [hq, Nat.add_sub_cancel] at HA
  have hq1 : q < 18446744073709551616 := by omega
  have hq2 : (M + hi) / 2 = q / 2 + 9223372036854775808 := by omega
  have hq3 : (M + hi) % 2 = q % 2 := by omega
  rw [hq2, hq3]
  have hqi : (q : Int) < 18446744073709551616 := by omega
  have hor : bits .or .u64 ((q : Int) / 2) 9223372036854775808 = ((q / 2 + 9223372036854775808 : Nat) : Int) := by
   have := or_top (q / 2) (by omega)
   rw [Int.natCast_ediv] at this
   exact this
  have hand := and_one q hq1
  have hm20 : ((q / 2 + 9223372036854775808 : Nat) : Int) < 18446744073709551616 := by omega
  have hm21 : 0 ≤ ((q / 2 + 9223372036854775808 : Nat) : Int) := by omega
  generalize ((q / 2 + 9223372036854775808 : Nat) : Int) = mz at hor hm20 hm21 ⊢
  clear hq hq2 hq3 hS hS2 h4
  have hea1 : ea + 1 < 9223372036854775808 := by omega
  rcases Nat.mod_two_eq_zero_or_one q with hp | hp
  ·rw [hp] at hand ⊢
   rw [show decide ((0 : Nat) ≠ 0) = false from rfl, Bool.or_false]
   rw [show ((0 : Nat) : Int) = 0 from rfl] at hand
   clear hp
   cases ct
   ·by_cases hl : lz = 0
    ·subst hl
     rw [show (false || decide ((0 : Int) ≠ 0)) = false from rfl]
     have HG := Lib.hid (fun W => grow_calls n mz (ea + 1) false (up != n) hm21 hm20 (by omega) (by omega) W)
     generalize growN n mz (ea + 1) false (up != n) = r at HG ⊢
     go_enter Tryz.func83, Tryz.ntmps83
     go_wp2_with (first
      | (go_at_call 95; (refine (HL.out _).mono ?_); rintro e' w1 ⟨rfl, hb⟩; have HB1 := bl_trans HB0 hb; have X1 := X0.call hb; have BR1 := BR0.call hb; have hx1 := X1.lt; have hx2 := BR1.lt; clear hb)
      | (refine wpList_stG rfl 125 (.tmp 7) (.tmp 19) rfl w1.heap.size _ #[.u hi, .u 0, .b false] (Blk.new w1 _ _) rfl rfl (by kernel_rfl) rfl (by simp [Value.oneCell']) ?_; intro W2 D2 P2; have X2 := P2.blk (X1.alloc _) (by omega); have BR2 := P2.blk (BR1.alloc _) (by omega); have HB2 := P2.bel (bl_alloc HB1 _) (by omega); obtain ⟨⟨a0, a1, a2, a3⟩, _⟩ := X2.c4; have d0 := D2.cell 0; have d1 := D2.cell 1; have d2 := D2.cell 2; simp only [List.getElem?_toArray, List.getElem?_cons_zero, List.getElem?_cons_succ] at d0 d1 d2)
      | (go_at_call 97; (refine (HG.out _).mono ?_); rintro e' w3 ⟨rfl, hb⟩; have HB3 := bl_trans HB2 hb; have BR3 := BR2.call hb; clear hb a0 a1 a2 a3 d0 d1 d2)
      | (refine wpList_stG rfl 32 (.tmp 6) (.tmp 59) rfl (w.heap.size + 1 + 1) _ #[.i r.k, .b r.n, .u r.m, .i r.e] BR3 rfl rfl (by kernel_rfl) rfl (by simp [Value.oneCell']) ?_; intro W4 B4 P4; have HB4 := P4.bel HB3 (by omega)))
     exact bodyPost_ret (results_cell_row rfl _ _ (w.heap.size + 1 + 1) 32 _ (0, 0) _ rfl B4 Tryz.underlying32 rfl (by kernel_rfl)) rfl ⟨rfl, HB4⟩
    ·have hl1 : (lz != 0) = true := bne_iff_ne.2 hl
     rw [show (false || decide (lz ≠ 0)) = true from by simp [hl]]
     have HG := Lib.hid (fun W => grow_calls n mz (ea + 1) true (up != n) hm21 hm20 (by omega) (by omega) W)
     generalize growN n mz (ea + 1) true (up != n) = r at HG ⊢
     go_enter Tryz.func83, Tryz.ntmps83
     go_wp2_with (first
      | (go_at_call 95; (refine (HL.out _).mono ?_); rintro e' w1 ⟨rfl, hb⟩; have HB1 := bl_trans HB0 hb; have X1 := X0.call hb; have BR1 := BR0.call hb; have hx1 := X1.lt; have hx2 := BR1.lt; clear hb)
      | (refine wpList_stG rfl 125 (.tmp 7) (.tmp 19) rfl w1.heap.size _ #[.u hi, .u lz, .b false] (Blk.new w1 _ _) rfl rfl (by kernel_rfl) rfl (by simp [Value.oneCell']) ?_; intro W2 D2 P2; have X2 := P2.blk (X1.alloc _) (by omega); have BR2 := P2.blk (BR1.alloc _) (by omega); have HB2 := P2.bel (bl_alloc HB1 _) (by omega); obtain ⟨⟨a0, a1, a2, a3⟩, _⟩ := X2.c4; have d0 := D2.cell 0; have d1 := D2.cell 1; have d2 := D2.cell 2; simp only [List.getElem?_toArray, List.getElem?_cons_zero, List.getElem?_cons_succ] at d0 d1 d2)
      | (go_at_call 97; (refine (HG.out _).mono ?_); rintro e' w3 ⟨rfl, hb⟩; have HB3 := bl_trans HB2 hb; have BR3 := BR2.call hb; clear hb a0 a1 a2 a3 d0 d1 d2)
      | (refine wpList_stG rfl 32 (.tmp 6) (.tmp 59) rfl (w.heap.size + 1 + 1) _ #[.i r.k, .b r.n, .u r.m, .i r.e] BR3 rfl rfl (by kernel_rfl) rfl (by simp [Value.oneCell']) ?_; intro W4 B4 P4; have HB4 := P4.bel HB3 (by omega)))
     exact bodyPost_ret (results_cell_row rfl _ _ (w.heap.size + 1 + 1) 32 _ (0, 0) _ rfl B4 Tryz.underlying32 rfl (by kernel_rfl)) rfl ⟨rfl, HB4⟩
   ·rw [Bool.true_or]
    have HG := Lib.hid (fun W => grow_calls n mz (ea + 1) true (up != n) hm21 hm20 (by omega) (by omega) W)
    generalize growN n mz (ea + 1) true (up != n) = r at HG ⊢
    go_enter Tryz.func83, Tryz.ntmps83
    go_wp2_with (first
     | (go_at_call 95; (refine (HL.out _).mono ?_); rintro e' w1 ⟨rfl, hb⟩; have HB1 := bl_trans HB0 hb; have X1 := X0.call hb; have BR1 := BR0.call hb; have hx1 := X1.lt; have hx2 := BR1.lt; clear hb)
     | (refine wpList_stG rfl 125 (.tmp 7) (.tmp 19) rfl w1.heap.size _ #[.u hi, .u lz, .b true] (Blk.new w1 _ _) rfl rfl (by kernel_rfl) rfl (by simp [Value.oneCell']) ?_; intro W2 D2 P2; have X2 := P2.blk (X1.alloc _) (by omega); have BR2 := P2.blk (BR1.alloc _) (by omega); have HB2 := P2.bel (bl_alloc HB1 _) (by omega); obtain ⟨⟨a0, a1, a2, a3⟩, _⟩ := X2.c4; have d0 := D2.cell 0; have d1 := D2.cell 1; have d2 := D2.cell 2; simp only [List.getElem?_toArray, List.getElem?_cons_zero, List.getElem?_cons_succ] at d0 d1 d2)
     | (go_at_call 97; (refine (HG.out _).mono ?_); rintro e' w3 ⟨rfl, hb⟩; have HB3 := bl_trans HB2 hb; have BR3 := BR2.call hb; clear hb a0 a1 a2 a3 d0 d1 d2)
     | (refine wpList_stG rfl 32 (.tmp 6) (.tmp 59) rfl (w.heap.size + 1 + 1) _ #[.i r.k, .b r.n, .u r.m, .i r.e] BR3 rfl rfl (by kernel_rfl) rfl (by simp [Value.oneCell']) ?_; intro W4 B4 P4; have HB4 := P4.bel HB3 (by omega)))
    exact bodyPost_ret (results_cell_row rfl _ _ (w.heap.size + 1 + 1) 32 _ (0, 0) _ rfl B4 Tryz.underlying32 rfl (by kernel_rfl)) rfl ⟨rfl, HB4⟩
  ·rw [hp] at hand ⊢
   rw [show decide ((1 : Nat) ≠ 0) = true from rfl, Bool.or_true]
   rw [show ((1 : Nat) : Int) = 1 from rfl] at hand
   clear hp
   have HG := Lib.hid (fun W => grow_calls n mz (ea + 1) true (up != n) hm21 hm20 (by omega) (by omega) W)
   generalize growN n mz (ea + 1) true (up != n) = r at HG ⊢
   cases ct
   ·by_cases hl : lz = 0
    ·subst hl
     go_enter Tryz.func83, Tryz.ntmps83
     go_wp2_with (first
      | (go_at_call 95; (refine (HL.out _).mono ?_); rintro e' w1 ⟨rfl, hb⟩; have HB1 := bl_trans HB0 hb; have X1 := X0.call hb; have BR1 := BR0.call hb; have hx1 := X1.lt; have hx2 := BR1.lt; clear hb)
      | (refine wpList_stG rfl 125 (.tmp 7) (.tmp 19) rfl w1.heap.size _ #[.u hi, .u 0, .b false] (Blk.new w1 _ _) rfl rfl (by kernel_rfl) rfl (by simp [Value.oneCell']) ?_; intro W2 D2 P2; have X2 := P2.blk (X1.alloc _) (by omega); have BR2 := P2.blk (BR1.alloc _) (by omega); have HB2 := P2.bel (bl_alloc HB1 _) (by omega); obtain ⟨⟨a0, a1, a2, a3⟩, _⟩ := X2.c4; have d0 := D2.cell 0; have d1 := D2.cell 1; have d2 := D2.cell 2; simp only [List.getElem?_toArray, List.getElem?_cons_zero, List.getElem?_cons_succ] at d0 d1 d2)
      | (go_at_call 97; (refine (HG.out _).mono ?_); rintro e' w3 ⟨rfl, hb⟩; have HB3 := bl_trans HB2 hb; have BR3 := BR2.call hb; clear hb a0 a1 a2 a3 d0 d1 d2)
      | (refine wpList_stG rfl 32 (.tmp 6) (.tmp 59) rfl (w.heap.size + 1 + 1) _ #[.i r.k, .b r.n, .u r.m, .i r.e] BR3 rfl rfl (by kernel_rfl) rfl (by simp [Value.oneCell']) ?_; intro W4 B4 P4; have HB4 := P4.bel HB3 (by omega)))
     exact bodyPost_ret (results_cell_row rfl _ _ (w.heap.size + 1 + 1) 32 _ (0, 0) _ rfl B4 Tryz.underlying32 rfl (by kernel_rfl)) rfl ⟨rfl, HB4⟩
    ·have hl1 : (lz != 0) = true := bne_iff_ne.2 hl
     go_enter Tryz.func83, Tryz.ntmps83
     go_wp2_with (first
      | (go_at_call 95; (refine (HL.out _).mono ?_); rintro e' w1 ⟨rfl, hb⟩; have HB1 := bl_trans HB0 hb; have X1 := X0.call hb; have BR1 := BR0.call hb; have hx1 := X1.lt; have hx2 := BR1.lt; clear hb)
      | (refine wpList_stG rfl 125 (.tmp 7) (.tmp 19) rfl w1.heap.size _ #[.u hi, .u lz, .b false] (Blk.new w1 _ _) rfl rfl (by kernel_rfl) rfl (by simp [Value.oneCell']) ?_; intro W2 D2 P2; have X2 := P2.blk (X1.alloc _) (by omega); have BR2 := P2.blk (BR1.alloc _) (by omega); have HB2 := P2.bel (bl_alloc HB1 _) (by omega); obtain ⟨⟨a0, a1, a2, a3⟩, _⟩ := X2.c4; have d0 := D2.cell 0; have d1 := D2.cell 1; have d2 := D2.cell 2; simp only [List.getElem?_toArray, List.getElem?_cons_zero, List.getElem?_cons_succ] at d0 d1 d2)
      | (go_at_call 97; (refine (HG.out _).mono ?_); rintro e' w3 ⟨rfl, hb⟩; have HB3 := bl_trans HB2 hb; have BR3 := BR2.call hb; clear hb a0 a1 a2 a3 d0 d1 d2)
      | (refine wpList_stG rfl 32 (.tmp 6) (.tmp 59) rfl (w.heap.size + 1 + 1) _ #[.i r.k, .b r.n, .u r.m, .i r.e] BR3 rfl rfl (by kernel_rfl) rfl (by simp [Value.oneCell']) ?_; intro W4 B4 P4; have HB4 := P4.bel HB3 (by omega)))
     exact bodyPost_ret (results_cell_row rfl _ _ (w.heap.size + 1 + 1) 32 _ (0, 0) _ rfl B4 Tryz.underlying32 rfl (by kernel_rfl)) rfl ⟨rfl, HB4⟩
   ·skip
    go_enter Tryz.func83, Tryz.ntmps83
    go_wp2_with (first
     | (go_at_call 95; (refine (HL.out _).mono ?_); rintro e' w1 ⟨rfl, hb⟩; have HB1 := bl_trans HB0 hb; have X1 := X0.call hb; have BR1 := BR0.call hb; have hx1 := X1.lt; have hx2 := BR1.lt; clear hb)
     | (refine wpList_stG rfl 125 (.tmp 7) (.tmp 19) rfl w1.heap.size _ #[.u hi, .u lz, .b true] (Blk.new w1 _ _) rfl rfl (by kernel_rfl) rfl (by simp [Value.oneCell']) ?_; intro W2 D2 P2; have X2 := P2.blk (X1.alloc _) (by omega); have BR2 := P2.blk (BR1.alloc _) (by omega); have HB2 := P2.bel (bl_alloc HB1 _) (by omega); obtain ⟨⟨a0, a1, a2, a3⟩, _⟩ := X2.c4; have d0 := D2.cell 0; have d1 := D2.cell 1; have d2 := D2.cell 2; simp only [List.getElem?_toArray, List.getElem?_cons_zero, List.getElem?_cons_succ] at d0 d1 d2)
     | (go_at_call 97; (refine (HG.out _).mono ?_); rintro e' w3 ⟨rfl, hb⟩; have HB3 := bl_trans HB2 hb; have BR3 := BR2.call hb; clear hb a0 a1 a2 a3 d0 d1 d2)
     | (refine wpList_stG rfl 32 (.tmp 6) (.tmp 59) rfl (w.heap.size + 1 + 1) _ #[.i r.k, .b r.n, .u r.m, .i r.e] BR3 rfl rfl (by kernel_rfl) rfl (by simp [Value.oneCell']) ?_; intro W4 B4 P4; have HB4 := P4.bel HB3 (by omega)))
    exact bodyPost_ret (results_cell_row rfl _ _ (w.heap.size + 1 + 1) 32 _ (0, 0) _ rfl B4 Tryz.underlying32 rfl (by kernel_rfl)) rfl ⟨rfl, HB4⟩
end Go.Proofs.YteabdeohhmbclaaGreat.Wk
