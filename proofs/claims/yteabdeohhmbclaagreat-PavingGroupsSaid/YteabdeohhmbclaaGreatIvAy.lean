/- Walks: what iv's small functions compute, for every interval and number (no condition). -/
import Derived.Test.YteabdeohhmbclaaGreatNumXy
namespace Go.Proofs.YteabdeohhmbclaaGreat.Wk
open Go.RowKit Go.Proofs.Pl Go.Proofs.YteabdeohhmbclaaGreatW.PrintLast
set_option linter.unusedSimpArgs false
set_option linter.unusedVariables false

theorem eqNum (d : Nat) (w : World) (x0 y0 : Int) (x1 y1 : Bool) (x2 y2 : Int) (x3 y3 : Int) :
  (Op.equalIn (d + 2) 32 (.agg #[.i x0, .b x1, .u x2, .i x3]) (.agg #[.i y0, .b y1, .u y2, .i y3])).run Tryz.prog w = .ok (x0 == y0 && (x1 == y1 && (x2 == y2 && (x3 == y3)))) w := by
 refine eqA_of Tryz.underlying32 (by kernel_rfl) ?_
 refine eqf_cons (by rfl) (by go_simp; rfl) (by go_simp; rfl) (by go_simp) ?_
 refine eqf_cons (by rfl) (by go_simp; rfl) (by go_simp; rfl) (by go_simp) ?_
 refine eqf_cons (by rfl) (by go_simp; rfl) (by go_simp; rfl) (by go_simp) ?_
 exact eqf_last (by rfl) (by go_simp; rfl) (by go_simp; rfl) (by go_simp)
theorem eqIv (d : Nat) (w : World) (x0 y0 : Bool) (x1 y1 : Int) (x2 y2 : Bool) (x3 y3 : Int) (x4 y4 : Int) (x5 y5 : Int) (x6 y6 : Bool) (x7 y7 : Int) (x8 y8 : Int) :
  (Op.equalIn (d + 3) 34 (.agg #[.b x0, .i x1, .b x2, .u x3, .i x4, .i x5, .b x6, .u x7, .i x8]) (.agg #[.b y0, .i y1, .b y2, .u y3, .i y4, .i y5, .b y6, .u y7, .i y8])).run Tryz.prog w = .ok (x0 == y0 && ((x1 == y1 && (x2 == y2 && (x3 == y3 && (x4 == y4)))) && ((x5 == y5 && (x6 == y6 && (x7 == y7 && (x8 == y8))))))) w := by
 refine eqA_of Tryz.underlying34 (by kernel_rfl) ?_
 refine eqf_cons (by rfl) (by go_simp; rfl) (by go_simp; rfl) (by go_simp) ?_
 refine eqf_cons (by rfl) (by go_simp) (by go_simp) (eqNum (d + 0) w _ _ _ _ _ _ _ _) ?_
 exact eqf_last (by rfl) (by go_simp) (by go_simp) (eqNum (d + 0) w _ _ _ _ _ _ _ _)
theorem numEq (x0 y0 : Int) (x1 y1 : Bool) (x2 y2 : Int) (x3 y3 : Int) : (x0 == y0 && (x1 == y1 && (x2 == y2 && (x3 == y3)))) = decide ((⟨x0, x1, x2, x3⟩ : Num) = ⟨y0, y1, y2, y3⟩) := by
 rw [Bool.eq_iff_iff]; simp [Num.mk.injEq]
theorem ivEq (x0 y0 : Bool) (x1 y1 : Int) (x2 y2 : Bool) (x3 y3 : Int) (x4 y4 : Int) (x5 y5 : Int) (x6 y6 : Bool) (x7 y7 : Int) (x8 y8 : Int) :
  (x0 == y0 && ((x1 == y1 && (x2 == y2 && (x3 == y3 && (x4 == y4)))) && ((x5 == y5 && (x6 == y6 && (x7 == y7 && (x8 == y8))))))) = decide ((⟨x0, ⟨x1, x2, x3, x4⟩, ⟨x5, x6, x7, x8⟩⟩ : Iv) = ⟨y0, ⟨y1, y2, y3, y4⟩, ⟨y5, y6, y7, y8⟩⟩) := by
 rw [Bool.eq_iff_iff]; simp [Num.mk.injEq, Iv.mk.injEq, and_assoc]
theorem run_eqNum (w : World) (x0 y0 : Int) (x1 y1 : Bool) (x2 y2 : Int) (x3 y3 : Int) :
  (binOp .eql 32 (.agg #[.i x0, .b x1, .u x2, .i x3]) (.agg #[.i y0, .b y1, .u y2, .i y3])).run Tryz.prog w = .ok (.b (decide ((⟨x0, x1, x2, x3⟩ : Num) = ⟨y0, y1, y2, y3⟩))) w := by
 rw [← numEq]; simp only [binOp]; simp [Op.equal, Op.maxDepth, eqNum 9998 w]
theorem run_neNum (w : World) (x0 y0 : Int) (x1 y1 : Bool) (x2 y2 : Int) (x3 y3 : Int) :
  (binOp .neq 32 (.agg #[.i x0, .b x1, .u x2, .i x3]) (.agg #[.i y0, .b y1, .u y2, .i y3])).run Tryz.prog w = .ok (.b (!decide ((⟨x0, x1, x2, x3⟩ : Num) = ⟨y0, y1, y2, y3⟩))) w := by
 rw [← numEq]; simp only [binOp]; simp [Op.equal, Op.maxDepth, eqNum 9998 w]
theorem run_eqIv (w : World) (x0 y0 : Bool) (x1 y1 : Int) (x2 y2 : Bool) (x3 y3 : Int) (x4 y4 : Int) (x5 y5 : Int) (x6 y6 : Bool) (x7 y7 : Int) (x8 y8 : Int) :
  (binOp .eql 34 (.agg #[.b x0, .i x1, .b x2, .u x3, .i x4, .i x5, .b x6, .u x7, .i x8]) (.agg #[.b y0, .i y1, .b y2, .u y3, .i y4, .i y5, .b y6, .u y7, .i y8])).run Tryz.prog w = .ok (.b (decide ((⟨x0, ⟨x1, x2, x3, x4⟩, ⟨x5, x6, x7, x8⟩⟩ : Iv) = ⟨y0, ⟨y1, y2, y3, y4⟩, ⟨y5, y6, y7, y8⟩⟩))) w := by
 rw [← ivEq]; simp only [binOp]; simp [Op.equal, Op.maxDepth, eqIv 9997 w]
set_option maxHeartbeats 400000 in
theorem noneI_calls (w : World) :
  Calls Tryz.prog 35 #[] w fun e w' => e = .returned (.agg #[.b (noneI).emp, .i ((noneI).lo).k, .b ((noneI).lo).n, .u ((noneI).lo).m, .i ((noneI).lo).e, .i ((noneI).hi).k, .b ((noneI).hi).n, .u ((noneI).hi).m, .i ((noneI).hi).e]) ∧ Below w.heap.size w w' := by
 go_enter Tryz.func35, Tryz.ntmps35
 go_wp2
 refine bodyPost_ret (v := _) (by simp [results, Tryz.results35, go_sem]; rfl) rfl ⟨by rfl, ?_⟩
 repeat (first | exact Below.refl _ _ | refine bl_set ?_ (by simp) _ | apply bl_alloc)

theorem infN_lit (b : Bool) (w : World) :
  Calls Tryz.prog 54 #[.b b] w fun e w' => e = .returned (.agg #[.i 2, .b b, .u 0, .i 0]) ∧ Below w.heap.size w w' := infN_calls b w
theorem noneI_lit (w : World) :
  Calls Tryz.prog 35 #[] w fun e w' => e = .returned (.agg #[.b true, .i 0, .b false, .u 0, .i 0, .i 0, .b false, .u 0, .i 0]) ∧ Below w.heap.size w w' := noneI_calls w

set_option maxHeartbeats 400000 in
theorem allI_calls (w : World) :
  Calls Tryz.prog 90 #[] w fun e w' => e = .returned (.agg #[.b (allI).emp, .i ((allI).lo).k, .b ((allI).lo).n, .u ((allI).lo).m, .i ((allI).lo).e, .i ((allI).hi).k, .b ((allI).hi).n, .u ((allI).hi).m, .i ((allI).hi).e]) ∧ Below w.heap.size w w' := by
 go_enter Tryz.func90, Tryz.ntmps90
 go_wp2_with (go_at_call 54; first
  | ((with_reducible refine (infN_lit true _).mono ?_); rintro e w1 ⟨rfl, hb⟩; have B1 := (Blk.new w _ _).call hb; have HB1 := bl_trans (bl_alloc (Below.refl w.heap.size w) _) hb; clear hb)
  | ((with_reducible refine (infN_lit false _).mono ?_); rintro e w2 ⟨rfl, hb⟩; have B2 := B1.call hb; have HB2 := bl_trans HB1 hb; obtain ⟨W3, hW3, B3, _, hL, _⟩ := put9 B2 (.b false) (.i 2) (.b true) (.u 0) (.i 0) (.i 2) (.b false) (.u 0) (.i 0); have HB3 := hL w HB2 (Nat.le_refl _); obtain ⟨⟨q0, q1, q2, q3, q4, q5, q6, q7, q8⟩, ⟨f0, f1, f2, f3, f4, f5, f6, f7, f8⟩⟩ := B2.c9; clear hb B1 B2 HB1 HB2 hL))
 exact bodyPost_ret (results_cell_row rfl _ _ w.heap.size 34 #[.b false, .i 2, .b true, .u 0, .i 0, .i 2, .b false, .u 0, .i 0] (0, 0) _ rfl B3 Tryz.underlying34 rfl (by kernel_rfl)) rfl ⟨rfl, HB3⟩

set_option maxRecDepth 100000 in
set_option maxHeartbeats 4000000 in
theorem mayI_calls (a0 : Bool) (a1 : Int) (a2 : Bool) (a3 a4 a5 : Int) (a6 : Bool) (a7 a8 : Int) (w : World) :
  Calls Tryz.prog 27 #[.agg #[.b a0, .i a1, .b a2, .u a3, .i a4, .i a5, .b a6, .u a7, .i a8]] w fun e w' => e = .returned (.b (mayI ⟨a0, ⟨a1, a2, a3, a4⟩, ⟨a5, a6, a7, a8⟩⟩)) ∧ Below w.heap.size w w' := by
 unfold mayI
 dsimp only
 have HP := Lib.hid (fun W => mayN_calls a1 a2 a3 a4 W)
 have HQ := Lib.hid (fun W => mayN_calls a5 a6 a7 a8 W)
 have HC := Lib.hid (fun W => cmpN_calls a1 a2 a3 a4 a5 a6 a7 a8 W)
 have hn := fun W => run_eqIv W a0 true a1 0 a2 false a3 0 a4 0 a5 0 a6 false a7 0 a8 0
 have hl := fun W => run_neNum W a1 2 a2 false a3 0 a4 0
 have hh := fun W => run_neNum W a5 2 a6 true a7 0 a8 0
 change ∀ W, (binOp .eql _ _ _).run _ W = .ok (.b (decide ((⟨a0, ⟨a1, a2, a3, a4⟩, ⟨a5, a6, a7, a8⟩⟩ : Iv) = noneI))) W at hn
 change ∀ W, (binOp .neq _ _ _).run _ W = .ok (.b (!decide ((⟨a1, a2, a3, a4⟩ : Num) = infN false))) W at hl
 change ∀ W, (binOp .neq _ _ _).run _ W = .ok (.b (!decide ((⟨a5, a6, a7, a8⟩ : Num) = infN true))) W at hh
 generalize mayN ⟨a1, a2, a3, a4⟩ = p at HP ⊢
 generalize mayN ⟨a5, a6, a7, a8⟩ = q at HQ ⊢
 generalize cmpN ⟨a1, a2, a3, a4⟩ ⟨a5, a6, a7, a8⟩ = c at HC ⊢
 generalize decide ((⟨a0, ⟨a1, a2, a3, a4⟩, ⟨a5, a6, a7, a8⟩⟩ : Iv) = noneI) = n at hn ⊢
 generalize (!decide ((⟨a1, a2, a3, a4⟩ : Num) = infN false)) = l at hl ⊢
 generalize (!decide ((⟨a5, a6, a7, a8⟩ : Num) = infN true)) = h at hh ⊢
 cases a0
 ·clear hn
  have BX := (Blk.new w 34 (#[.b false, .i a1, .b a2, .u a3, .i a4, .i a5, .b a6, .u a7, .i a8])).drew
  have HBX := bl_drew (bl_alloc (Below.refl w.heap.size w) (.cells #[.b false, .i a1, .b a2, .u a3, .i a4, .i a5, .b a6, .u a7, .i a8] 34))
  cases p
  ·skip
   go_enter Tryz.func27, Tryz.ntmps27
   go_wp2_with fail
   refine start_ (n := 29) (S := fun w' => w'.cell? ⟨w.heap.size, 0, none⟩ = some (.b false) ∧ w'.cell? ⟨w.heap.size, 1, none⟩ = some (.i a1) ∧ w'.cell? ⟨w.heap.size, 2, none⟩ = some (.b a2) ∧ w'.cell? ⟨w.heap.size, 3, none⟩ = some (.u a3) ∧ w'.cell? ⟨w.heap.size, 4, none⟩ = some (.i a4) ∧ w'.cell? ⟨w.heap.size, 5, none⟩ = some (.i a5) ∧ w'.cell? ⟨w.heap.size, 6, none⟩ = some (.b a6) ∧ w'.cell? ⟨w.heap.size, 7, none⟩ = some (.u a7) ∧ w'.cell? ⟨w.heap.size, 8, none⟩ = some (.i a8)) (ds := []) (bq 29 0) (by kernel_rfl) rfl rfl ⟨BX.cell 0, BX.cell 1, BX.cell 2, BX.cell 3, BX.cell 4, BX.cell 5, BX.cell 6, BX.cell 7, BX.cell 8⟩ (fun hHeld => ?_)
   refine pu 0 8 (bq 29 1) ?_ ?_ (fun _ => ?_) ?_ ?_
   rotate_left 2
   ·go_simp
    with_reducible rfl
   ·simp only [Act.put, pA, pB, pC]
    rfl
   refine tk 1 9 (bq 29 3) ?_ ?_ ?_ ?_ hHeld ?_
   rotate_left 2
   ·rintro w' ⟨s0_, s1_, s2_, s3_, s4_, s5_, s6_, s7_, s8_⟩
    go_simp
    with_reducible rfl
   ·simp only [Act.put, pA, pB, pC]
    rfl
   refine on 2 10 (bq 29 7) (fun K hK => ?_)
   refine goes_ Tryz.func53 (by kernel_rfl) rfl #[.agg #[.i a1, .b a2, .u a3, .i a4]] (by first | rfl | go_simp) rfl rfl (by simp only [List.map_toArray, List.map_cons, List.map_nil] <;> rfl) ?_
   with_reducible refine (HP.out _).mono ?_
   rintro e w1 ⟨rfl, hb⟩
   refine ⟨_, rfl, ?_⟩
   have BX := BX.call hb
   have HBX := bl_trans HBX hb
   refine hK.out _ _ ⟨BX.cell 0, BX.cell 1, BX.cell 2, BX.cell 3, BX.cell 4, BX.cell 5, BX.cell 6, BX.cell 7, BX.cell 8⟩ (fun hHeld => ?_)
   clear hK K hb
   refine norm_ (a' := ?_) ?_ ?_
   rotate_left
   ·show Act.put _ (some 10) _ = _
    simp only [Act.put, pA, pB, pC]
    rfl
   refine pu 3 11 (bq 29 15) ?_ ?_ (fun _ => ?_) ?_ ?_
   rotate_left 2
   ·go_simp
    with_reducible rfl
   ·simp only [Act.put, pA, pB, pC]
    rfl
   refine po 4 12 (bq 29 31) ?_ ?_ ?_
   rotate_left
   ·simp only [Act.put, pA, pB, pC]
    rfl
   refine po 5 13 (bq 29 63) ?_ ?_ ?_
   rotate_left
   ·simp only [Act.put, pA, pB, pC]
    rfl
   refine po 6 14 (bq 29 127) ?_ ?_ ?_
   rotate_left
   ·simp only [Act.put, pA, pB, pC]
    rfl
   refine pu 7 15 (bq 29 255) ?_ ?_ (fun _ => ?_) ?_ ?_
   rotate_left 2
   ·go_simp
    with_reducible rfl
   ·simp only [Act.put, pA, pB, pC]
    rfl
   refine pu 8 16 (bq 29 511) ?_ ?_ (fun _ => ?_) ?_ ?_
   rotate_left 2
   ·go_simp
    with_reducible rfl
   ·simp only [Act.put, pA, pB, pC]
    rfl
   refine po 9 17 (bq 29 1023) ?_ ?_ ?_
   rotate_left
   ·simp only [Act.put, pA, pB, pC]
    rfl
   refine po 10 18 (bq 29 2047) ?_ ?_ ?_
   rotate_left
   ·simp only [Act.put, pA, pB, pC]
    rfl
   refine po 11 19 (bq 29 4095) ?_ ?_ ?_
   rotate_left
   ·simp only [Act.put, pA, pB, pC]
    rfl
   refine po 12 20 (bq 29 8191) ?_ ?_ ?_
   rotate_left
   ·simp only [Act.put, pA, pB, pC]
    rfl
   refine po 13 21 (bq 29 16383) ?_ ?_ ?_
   rotate_left
   ·simp only [Act.put, pA, pB, pC]
    rfl
   refine po 14 22 (bq 29 32767) ?_ ?_ ?_
   rotate_left
   ·simp only [Act.put, pA, pB, pC]
    rfl
   refine pu 15 23 (bq 29 65535) ?_ ?_ (fun _ => ?_) ?_ ?_
   rotate_left 2
   ·go_simp
    with_reducible rfl
   ·simp only [Act.put, pA, pB, pC]
    rfl
   refine pu 16 24 (bq 29 131071) ?_ ?_ (fun _ => ?_) ?_ ?_
   rotate_left 2
   ·go_simp
    with_reducible rfl
   ·simp only [Act.put, pA, pB, pC]
    rfl
   refine po 17 25 (bq 29 262143) ?_ ?_ ?_
   rotate_left
   ·simp only [Act.put, pA, pB, pC]
    rfl
   refine po 18 26 (bq 29 524287) ?_ ?_ ?_
   rotate_left
   ·simp only [Act.put, pA, pB, pC]
    rfl
   refine po 19 27 (bq 29 1048575) ?_ ?_ ?_
   rotate_left
   ·simp only [Act.put, pA, pB, pC]
    rfl
   refine po 20 28 (bq 29 2097151) ?_ ?_ ?_
   rotate_left
   ·simp only [Act.put, pA, pB, pC]
    rfl
   refine pu 21 29 (bq 29 4194303) ?_ ?_ (fun _ => ?_) ?_ ?_
   rotate_left 2
   ·go_simp
    with_reducible rfl
   ·simp only [Act.put, pA, pB, pC]
    rfl
   refine pu 22 30 (bq 29 8388607) ?_ ?_ (fun _ => ?_) ?_ ?_
   rotate_left 2
   ·go_simp
    with_reducible rfl
   ·simp only [Act.put, pA, pB, pC]
    rfl
   refine po 23 31 (bq 29 16777215) ?_ ?_ ?_
   rotate_left
   ·simp only [Act.put, pA, pB, pC]
    rfl
   refine po 24 32 (bq 29 33554431) ?_ ?_ ?_
   rotate_left
   ·simp only [Act.put, pA, pB, pC]
    rfl
   refine po 25 33 (bq 29 67108863) ?_ ?_ ?_
   rotate_left
   ·simp only [Act.put, pA, pB, pC]
    rfl
   refine po 26 34 (bq 29 134217727) ?_ ?_ ?_
   rotate_left
   ·simp only [Act.put, pA, pB, pC]
    rfl
   refine pu 27 35 (bq 29 268435455) ?_ ?_ (fun _ => ?_) ?_ ?_
   rotate_left 2
   ·go_simp
    with_reducible rfl
   ·simp only [Act.put, pA, pB, pC]
    rfl
   refine pu 28 2 (bq 29 536870911) ?_ ?_ (fun _ => ?_) ?_ ?_
   rotate_left 2
   ·go_simp
    with_reducible rfl
   ·simp only [Act.put, pA, pB, pC]
    rfl
   refine done_ (by kernel_rfl) ?_
   go_wp2
   go_ret
   exact ⟨by first | rfl | simp, HBX⟩
  ·cases q
   ·skip
    go_enter Tryz.func27, Tryz.ntmps27
    go_wp2_with fail
    refine start_ (n := 29) (S := fun w' => w'.cell? ⟨w.heap.size, 0, none⟩ = some (.b false) ∧ w'.cell? ⟨w.heap.size, 1, none⟩ = some (.i a1) ∧ w'.cell? ⟨w.heap.size, 2, none⟩ = some (.b a2) ∧ w'.cell? ⟨w.heap.size, 3, none⟩ = some (.u a3) ∧ w'.cell? ⟨w.heap.size, 4, none⟩ = some (.i a4) ∧ w'.cell? ⟨w.heap.size, 5, none⟩ = some (.i a5) ∧ w'.cell? ⟨w.heap.size, 6, none⟩ = some (.b a6) ∧ w'.cell? ⟨w.heap.size, 7, none⟩ = some (.u a7) ∧ w'.cell? ⟨w.heap.size, 8, none⟩ = some (.i a8)) (ds := []) (bq 29 0) (by kernel_rfl) rfl rfl ⟨BX.cell 0, BX.cell 1, BX.cell 2, BX.cell 3, BX.cell 4, BX.cell 5, BX.cell 6, BX.cell 7, BX.cell 8⟩ (fun hHeld => ?_)
    refine pu 0 8 (bq 29 1) ?_ ?_ (fun _ => ?_) ?_ ?_
    rotate_left 2
    ·go_simp
     with_reducible rfl
    ·simp only [Act.put, pA, pB, pC]
     rfl
    refine tk 1 9 (bq 29 3) ?_ ?_ ?_ ?_ hHeld ?_
    rotate_left 2
    ·rintro w' ⟨s0_, s1_, s2_, s3_, s4_, s5_, s6_, s7_, s8_⟩
     go_simp
     with_reducible rfl
    ·simp only [Act.put, pA, pB, pC]
     rfl
    refine on 2 10 (bq 29 7) (fun K hK => ?_)
    refine goes_ Tryz.func53 (by kernel_rfl) rfl #[.agg #[.i a1, .b a2, .u a3, .i a4]] (by first | rfl | go_simp) rfl rfl (by simp only [List.map_toArray, List.map_cons, List.map_nil] <;> rfl) ?_
    with_reducible refine (HP.out _).mono ?_
    rintro e w1 ⟨rfl, hb⟩
    refine ⟨_, rfl, ?_⟩
    have BX := BX.call hb
    have HBX := bl_trans HBX hb
    refine hK.out _ _ ⟨BX.cell 0, BX.cell 1, BX.cell 2, BX.cell 3, BX.cell 4, BX.cell 5, BX.cell 6, BX.cell 7, BX.cell 8⟩ (fun hHeld => ?_)
    clear hK K hb
    refine norm_ (a' := ?_) ?_ ?_
    rotate_left
    ·show Act.put _ (some 10) _ = _
     simp only [Act.put, pA, pB, pC]
     rfl
    refine pu 3 11 (bq 29 15) ?_ ?_ (fun _ => ?_) ?_ ?_
    rotate_left 2
    ·go_simp
     with_reducible rfl
    ·simp only [Act.put, pA, pB, pC]
     rfl
    refine pu 4 12 (bq 29 31) ?_ ?_ (fun _ => ?_) ?_ ?_
    rotate_left 2
    ·go_simp
     with_reducible rfl
    ·simp only [Act.put, pA, pB, pC]
     rfl
    refine tk 5 13 (bq 29 63) ?_ ?_ ?_ ?_ hHeld ?_
    rotate_left 2
    ·rintro w' ⟨s0_, s1_, s2_, s3_, s4_, s5_, s6_, s7_, s8_⟩
     go_simp
     with_reducible rfl
    ·simp only [Act.put, pA, pB, pC]
     rfl
    refine on 6 14 (bq 29 127) (fun K hK => ?_)
    refine goes_ Tryz.func53 (by kernel_rfl) rfl #[.agg #[.i a5, .b a6, .u a7, .i a8]] (by first | rfl | go_simp) rfl rfl (by simp only [List.map_toArray, List.map_cons, List.map_nil] <;> rfl) ?_
    with_reducible refine (HQ.out _).mono ?_
    rintro e w2 ⟨rfl, hb⟩
    refine ⟨_, rfl, ?_⟩
    have BX := BX.call hb
    have HBX := bl_trans HBX hb
    refine hK.out _ _ ⟨BX.cell 0, BX.cell 1, BX.cell 2, BX.cell 3, BX.cell 4, BX.cell 5, BX.cell 6, BX.cell 7, BX.cell 8⟩ (fun hHeld => ?_)
    clear hK K hb
    refine norm_ (a' := ?_) ?_ ?_
    rotate_left
    ·show Act.put _ (some 14) _ = _
     simp only [Act.put, pA, pB, pC]
     rfl
    refine pu 7 15 (bq 29 255) ?_ ?_ (fun _ => ?_) ?_ ?_
    rotate_left 2
    ·go_simp
     with_reducible rfl
    ·simp only [Act.put, pA, pB, pC]
     rfl
    refine pu 8 16 (bq 29 511) ?_ ?_ (fun _ => ?_) ?_ ?_
    rotate_left 2
    ·go_simp
     with_reducible rfl
    ·simp only [Act.put, pA, pB, pC]
     rfl
    refine po 9 17 (bq 29 1023) ?_ ?_ ?_
    rotate_left
    ·simp only [Act.put, pA, pB, pC]
     rfl
    refine po 10 18 (bq 29 2047) ?_ ?_ ?_
    rotate_left
    ·simp only [Act.put, pA, pB, pC]
     rfl
    refine po 11 19 (bq 29 4095) ?_ ?_ ?_
    rotate_left
    ·simp only [Act.put, pA, pB, pC]
     rfl
    refine po 12 20 (bq 29 8191) ?_ ?_ ?_
    rotate_left
    ·simp only [Act.put, pA, pB, pC]
     rfl
    refine po 13 21 (bq 29 16383) ?_ ?_ ?_
    rotate_left
    ·simp only [Act.put, pA, pB, pC]
     rfl
    refine po 14 22 (bq 29 32767) ?_ ?_ ?_
    rotate_left
    ·simp only [Act.put, pA, pB, pC]
     rfl
    refine pu 15 23 (bq 29 65535) ?_ ?_ (fun _ => ?_) ?_ ?_
    rotate_left 2
    ·go_simp
     with_reducible rfl
    ·simp only [Act.put, pA, pB, pC]
     rfl
    refine pu 16 24 (bq 29 131071) ?_ ?_ (fun _ => ?_) ?_ ?_
    rotate_left 2
    ·go_simp
     with_reducible rfl
    ·simp only [Act.put, pA, pB, pC]
     rfl
    refine po 17 25 (bq 29 262143) ?_ ?_ ?_
    rotate_left
    ·simp only [Act.put, pA, pB, pC]
     rfl
    refine po 18 26 (bq 29 524287) ?_ ?_ ?_
    rotate_left
    ·simp only [Act.put, pA, pB, pC]
     rfl
    refine po 19 27 (bq 29 1048575) ?_ ?_ ?_
    rotate_left
    ·simp only [Act.put, pA, pB, pC]
     rfl
    refine po 20 28 (bq 29 2097151) ?_ ?_ ?_
    rotate_left
    ·simp only [Act.put, pA, pB, pC]
     rfl
    refine pu 21 29 (bq 29 4194303) ?_ ?_ (fun _ => ?_) ?_ ?_
    rotate_left 2
    ·go_simp
     with_reducible rfl
    ·simp only [Act.put, pA, pB, pC]
     rfl
    refine pu 22 30 (bq 29 8388607) ?_ ?_ (fun _ => ?_) ?_ ?_
    rotate_left 2
    ·go_simp
     with_reducible rfl
    ·simp only [Act.put, pA, pB, pC]
     rfl
    refine po 23 31 (bq 29 16777215) ?_ ?_ ?_
    rotate_left
    ·simp only [Act.put, pA, pB, pC]
     rfl
    refine po 24 32 (bq 29 33554431) ?_ ?_ ?_
    rotate_left
    ·simp only [Act.put, pA, pB, pC]
     rfl
    refine po 25 33 (bq 29 67108863) ?_ ?_ ?_
    rotate_left
    ·simp only [Act.put, pA, pB, pC]
     rfl
    refine po 26 34 (bq 29 134217727) ?_ ?_ ?_
    rotate_left
    ·simp only [Act.put, pA, pB, pC]
     rfl
    refine pu 27 35 (bq 29 268435455) ?_ ?_ (fun _ => ?_) ?_ ?_
    rotate_left 2
    ·go_simp
     with_reducible rfl
    ·simp only [Act.put, pA, pB, pC]
     rfl
    refine pu 28 2 (bq 29 536870911) ?_ ?_ (fun _ => ?_) ?_ ?_
    rotate_left 2
    ·go_simp
     with_reducible rfl
    ·simp only [Act.put, pA, pB, pC]
     rfl
    refine done_ (by kernel_rfl) ?_
    go_wp2
    go_ret
    exact ⟨by first | rfl | simp, HBX⟩
   ·cases hcd : decide (c ≤ 0)
    ·skip
     go_enter Tryz.func27, Tryz.ntmps27
     go_wp2_with fail
     refine start_ (n := 29) (S := fun w' => w'.cell? ⟨w.heap.size, 0, none⟩ = some (.b false) ∧ w'.cell? ⟨w.heap.size, 1, none⟩ = some (.i a1) ∧ w'.cell? ⟨w.heap.size, 2, none⟩ = some (.b a2) ∧ w'.cell? ⟨w.heap.size, 3, none⟩ = some (.u a3) ∧ w'.cell? ⟨w.heap.size, 4, none⟩ = some (.i a4) ∧ w'.cell? ⟨w.heap.size, 5, none⟩ = some (.i a5) ∧ w'.cell? ⟨w.heap.size, 6, none⟩ = some (.b a6) ∧ w'.cell? ⟨w.heap.size, 7, none⟩ = some (.u a7) ∧ w'.cell? ⟨w.heap.size, 8, none⟩ = some (.i a8)) (ds := []) (bq 29 0) (by kernel_rfl) rfl rfl ⟨BX.cell 0, BX.cell 1, BX.cell 2, BX.cell 3, BX.cell 4, BX.cell 5, BX.cell 6, BX.cell 7, BX.cell 8⟩ (fun hHeld => ?_)
     refine pu 0 8 (bq 29 1) ?_ ?_ (fun _ => ?_) ?_ ?_
     rotate_left 2
     ·go_simp
      with_reducible rfl
     ·simp only [Act.put, pA, pB, pC]
      rfl
     refine tk 1 9 (bq 29 3) ?_ ?_ ?_ ?_ hHeld ?_
     rotate_left 2
     ·rintro w' ⟨s0_, s1_, s2_, s3_, s4_, s5_, s6_, s7_, s8_⟩
      go_simp
      with_reducible rfl
     ·simp only [Act.put, pA, pB, pC]
      rfl
     refine on 2 10 (bq 29 7) (fun K hK => ?_)
     refine goes_ Tryz.func53 (by kernel_rfl) rfl #[.agg #[.i a1, .b a2, .u a3, .i a4]] (by first | rfl | go_simp) rfl rfl (by simp only [List.map_toArray, List.map_cons, List.map_nil] <;> rfl) ?_
     with_reducible refine (HP.out _).mono ?_
     rintro e w1 ⟨rfl, hb⟩
     refine ⟨_, rfl, ?_⟩
     have BX := BX.call hb
     have HBX := bl_trans HBX hb
     refine hK.out _ _ ⟨BX.cell 0, BX.cell 1, BX.cell 2, BX.cell 3, BX.cell 4, BX.cell 5, BX.cell 6, BX.cell 7, BX.cell 8⟩ (fun hHeld => ?_)
     clear hK K hb
     refine norm_ (a' := ?_) ?_ ?_
     rotate_left
     ·show Act.put _ (some 10) _ = _
      simp only [Act.put, pA, pB, pC]
      rfl
     refine pu 3 11 (bq 29 15) ?_ ?_ (fun _ => ?_) ?_ ?_
     rotate_left 2
     ·go_simp
      with_reducible rfl
     ·simp only [Act.put, pA, pB, pC]
      rfl
     refine pu 4 12 (bq 29 31) ?_ ?_ (fun _ => ?_) ?_ ?_
     rotate_left 2
     ·go_simp
      with_reducible rfl
     ·simp only [Act.put, pA, pB, pC]
      rfl
     refine tk 5 13 (bq 29 63) ?_ ?_ ?_ ?_ hHeld ?_
     rotate_left 2
     ·rintro w' ⟨s0_, s1_, s2_, s3_, s4_, s5_, s6_, s7_, s8_⟩
      go_simp
      with_reducible rfl
     ·simp only [Act.put, pA, pB, pC]
      rfl
     refine on 6 14 (bq 29 127) (fun K hK => ?_)
     refine goes_ Tryz.func53 (by kernel_rfl) rfl #[.agg #[.i a5, .b a6, .u a7, .i a8]] (by first | rfl | go_simp) rfl rfl (by simp only [List.map_toArray, List.map_cons, List.map_nil] <;> rfl) ?_
     with_reducible refine (HQ.out _).mono ?_
     rintro e w2 ⟨rfl, hb⟩
     refine ⟨_, rfl, ?_⟩
     have BX := BX.call hb
     have HBX := bl_trans HBX hb
     refine hK.out _ _ ⟨BX.cell 0, BX.cell 1, BX.cell 2, BX.cell 3, BX.cell 4, BX.cell 5, BX.cell 6, BX.cell 7, BX.cell 8⟩ (fun hHeld => ?_)
     clear hK K hb
     refine norm_ (a' := ?_) ?_ ?_
     rotate_left
     ·show Act.put _ (some 14) _ = _
      simp only [Act.put, pA, pB, pC]
      rfl
     refine pu 7 15 (bq 29 255) ?_ ?_ (fun _ => ?_) ?_ ?_
     rotate_left 2
     ·go_simp
      with_reducible rfl
     ·simp only [Act.put, pA, pB, pC]
      rfl
     refine pu 8 16 (bq 29 511) ?_ ?_ (fun _ => ?_) ?_ ?_
     rotate_left 2
     ·go_simp
      with_reducible rfl
     ·simp only [Act.put, pA, pB, pC]
      rfl
     refine pu 9 17 (bq 29 1023) ?_ ?_ (fun _ => ?_) ?_ ?_
     rotate_left 2
     ·go_simp
      with_reducible rfl
     ·simp only [Act.put, pA, pB, pC]
      rfl
     refine tk 10 18 (bq 29 2047) ?_ ?_ ?_ ?_ hHeld ?_
     rotate_left 2
     ·rintro w' ⟨s0_, s1_, s2_, s3_, s4_, s5_, s6_, s7_, s8_⟩
      go_simp
      with_reducible rfl
     ·simp only [Act.put, pA, pB, pC]
      rfl
     refine pu 11 19 (bq 29 4095) ?_ ?_ (fun _ => ?_) ?_ ?_
     rotate_left 2
     ·go_simp
      with_reducible rfl
     ·simp only [Act.put, pA, pB, pC]
      rfl
     refine tk 12 20 (bq 29 8191) ?_ ?_ ?_ ?_ hHeld ?_
     rotate_left 2
     ·rintro w' ⟨s0_, s1_, s2_, s3_, s4_, s5_, s6_, s7_, s8_⟩
      go_simp
      with_reducible rfl
     ·simp only [Act.put, pA, pB, pC]
      rfl
     refine on 13 21 (bq 29 16383) (fun K hK => ?_)
     refine goes_ Tryz.func28 (by kernel_rfl) rfl #[.agg #[.i a1, .b a2, .u a3, .i a4], .agg #[.i a5, .b a6, .u a7, .i a8]] (by first | rfl | go_simp) rfl rfl (by simp only [List.map_toArray, List.map_cons, List.map_nil] <;> rfl) ?_
     with_reducible refine (HC.out _).mono ?_
     rintro e w3 ⟨rfl, hb⟩
     refine ⟨_, rfl, ?_⟩
     have BX := BX.call hb
     have HBX := bl_trans HBX hb
     refine hK.out _ _ ⟨BX.cell 0, BX.cell 1, BX.cell 2, BX.cell 3, BX.cell 4, BX.cell 5, BX.cell 6, BX.cell 7, BX.cell 8⟩ (fun hHeld => ?_)
     clear hK K hb
     refine norm_ (a' := ?_) ?_ ?_
     rotate_left
     ·show Act.put _ (some 21) _ = _
      simp only [Act.put, pA, pB, pC]
      rfl
     refine pu 14 22 (bq 29 32767) ?_ ?_ (fun _ => ?_) ?_ ?_
     rotate_left 2
     ·go_simp
      with_reducible rfl
     ·simp only [Act.put, pA, pB, pC]
      rfl
     refine pu 15 23 (bq 29 65535) ?_ ?_ (fun _ => ?_) ?_ ?_
     rotate_left 2
     ·go_simp
      with_reducible rfl
     ·simp only [Act.put, pA, pB, pC]
      rfl
     refine pu 16 24 (bq 29 131071) ?_ ?_ (fun _ => ?_) ?_ ?_
     rotate_left 2
     ·go_simp
      with_reducible rfl
     ·simp only [Act.put, pA, pB, pC]
      rfl
     refine po 17 25 (bq 29 262143) ?_ ?_ ?_
     rotate_left
     ·simp only [Act.put, pA, pB, pC]
      rfl
     refine po 18 26 (bq 29 524287) ?_ ?_ ?_
     rotate_left
     ·simp only [Act.put, pA, pB, pC]
      rfl
     refine po 19 27 (bq 29 1048575) ?_ ?_ ?_
     rotate_left
     ·simp only [Act.put, pA, pB, pC]
      rfl
     refine po 20 28 (bq 29 2097151) ?_ ?_ ?_
     rotate_left
     ·simp only [Act.put, pA, pB, pC]
      rfl
     refine pu 21 29 (bq 29 4194303) ?_ ?_ (fun _ => ?_) ?_ ?_
     rotate_left 2
     ·go_simp
      with_reducible rfl
     ·simp only [Act.put, pA, pB, pC]
      rfl
     refine pu 22 30 (bq 29 8388607) ?_ ?_ (fun _ => ?_) ?_ ?_
     rotate_left 2
     ·go_simp
      with_reducible rfl
     ·simp only [Act.put, pA, pB, pC]
      rfl
     refine po 23 31 (bq 29 16777215) ?_ ?_ ?_
     rotate_left
     ·simp only [Act.put, pA, pB, pC]
      rfl
     refine po 24 32 (bq 29 33554431) ?_ ?_ ?_
     rotate_left
     ·simp only [Act.put, pA, pB, pC]
      rfl
     refine po 25 33 (bq 29 67108863) ?_ ?_ ?_
     rotate_left
     ·simp only [Act.put, pA, pB, pC]
      rfl
     refine po 26 34 (bq 29 134217727) ?_ ?_ ?_
     rotate_left
     ·simp only [Act.put, pA, pB, pC]
      rfl
     refine pu 27 35 (bq 29 268435455) ?_ ?_ (fun _ => ?_) ?_ ?_
     rotate_left 2
     ·go_simp
      with_reducible rfl
     ·simp only [Act.put, pA, pB, pC]
      rfl
     refine pu 28 2 (bq 29 536870911) ?_ ?_ (fun _ => ?_) ?_ ?_
     rotate_left 2
     ·go_simp
      with_reducible rfl
     ·simp only [Act.put, pA, pB, pC]
      rfl
     refine done_ (by kernel_rfl) ?_
     go_wp2
     go_ret
     exact ⟨by first | rfl | simp, HBX⟩
    ·cases l
     ·skip
      go_enter Tryz.func27, Tryz.ntmps27
      go_wp2_with fail
      refine start_ (n := 29) (S := fun w' => w'.cell? ⟨w.heap.size, 0, none⟩ = some (.b false) ∧ w'.cell? ⟨w.heap.size, 1, none⟩ = some (.i a1) ∧ w'.cell? ⟨w.heap.size, 2, none⟩ = some (.b a2) ∧ w'.cell? ⟨w.heap.size, 3, none⟩ = some (.u a3) ∧ w'.cell? ⟨w.heap.size, 4, none⟩ = some (.i a4) ∧ w'.cell? ⟨w.heap.size, 5, none⟩ = some (.i a5) ∧ w'.cell? ⟨w.heap.size, 6, none⟩ = some (.b a6) ∧ w'.cell? ⟨w.heap.size, 7, none⟩ = some (.u a7) ∧ w'.cell? ⟨w.heap.size, 8, none⟩ = some (.i a8)) (ds := []) (bq 29 0) (by kernel_rfl) rfl rfl ⟨BX.cell 0, BX.cell 1, BX.cell 2, BX.cell 3, BX.cell 4, BX.cell 5, BX.cell 6, BX.cell 7, BX.cell 8⟩ (fun hHeld => ?_)
      refine pu 0 8 (bq 29 1) ?_ ?_ (fun _ => ?_) ?_ ?_
      rotate_left 2
      ·go_simp
       with_reducible rfl
      ·simp only [Act.put, pA, pB, pC]
       rfl
      refine tk 1 9 (bq 29 3) ?_ ?_ ?_ ?_ hHeld ?_
      rotate_left 2
      ·rintro w' ⟨s0_, s1_, s2_, s3_, s4_, s5_, s6_, s7_, s8_⟩
       go_simp
       with_reducible rfl
      ·simp only [Act.put, pA, pB, pC]
       rfl
      refine on 2 10 (bq 29 7) (fun K hK => ?_)
      refine goes_ Tryz.func53 (by kernel_rfl) rfl #[.agg #[.i a1, .b a2, .u a3, .i a4]] (by first | rfl | go_simp) rfl rfl (by simp only [List.map_toArray, List.map_cons, List.map_nil] <;> rfl) ?_
      with_reducible refine (HP.out _).mono ?_
      rintro e w1 ⟨rfl, hb⟩
      refine ⟨_, rfl, ?_⟩
      have BX := BX.call hb
      have HBX := bl_trans HBX hb
      refine hK.out _ _ ⟨BX.cell 0, BX.cell 1, BX.cell 2, BX.cell 3, BX.cell 4, BX.cell 5, BX.cell 6, BX.cell 7, BX.cell 8⟩ (fun hHeld => ?_)
      clear hK K hb
      refine norm_ (a' := ?_) ?_ ?_
      rotate_left
      ·show Act.put _ (some 10) _ = _
       simp only [Act.put, pA, pB, pC]
       rfl
      refine pu 3 11 (bq 29 15) ?_ ?_ (fun _ => ?_) ?_ ?_
      rotate_left 2
      ·go_simp
       with_reducible rfl
      ·simp only [Act.put, pA, pB, pC]
       rfl
      refine pu 4 12 (bq 29 31) ?_ ?_ (fun _ => ?_) ?_ ?_
      rotate_left 2
      ·go_simp
       with_reducible rfl
      ·simp only [Act.put, pA, pB, pC]
       rfl
      refine tk 5 13 (bq 29 63) ?_ ?_ ?_ ?_ hHeld ?_
      rotate_left 2
      ·rintro w' ⟨s0_, s1_, s2_, s3_, s4_, s5_, s6_, s7_, s8_⟩
       go_simp
       with_reducible rfl
      ·simp only [Act.put, pA, pB, pC]
       rfl
      refine on 6 14 (bq 29 127) (fun K hK => ?_)
      refine goes_ Tryz.func53 (by kernel_rfl) rfl #[.agg #[.i a5, .b a6, .u a7, .i a8]] (by first | rfl | go_simp) rfl rfl (by simp only [List.map_toArray, List.map_cons, List.map_nil] <;> rfl) ?_
      with_reducible refine (HQ.out _).mono ?_
      rintro e w2 ⟨rfl, hb⟩
      refine ⟨_, rfl, ?_⟩
      have BX := BX.call hb
      have HBX := bl_trans HBX hb
      refine hK.out _ _ ⟨BX.cell 0, BX.cell 1, BX.cell 2, BX.cell 3, BX.cell 4, BX.cell 5, BX.cell 6, BX.cell 7, BX.cell 8⟩ (fun hHeld => ?_)
      clear hK K hb
      refine norm_ (a' := ?_) ?_ ?_
      rotate_left
      ·show Act.put _ (some 14) _ = _
       simp only [Act.put, pA, pB, pC]
       rfl
      refine pu 7 15 (bq 29 255) ?_ ?_ (fun _ => ?_) ?_ ?_
      rotate_left 2
      ·go_simp
       with_reducible rfl
      ·simp only [Act.put, pA, pB, pC]
       rfl
      refine pu 8 16 (bq 29 511) ?_ ?_ (fun _ => ?_) ?_ ?_
      rotate_left 2
      ·go_simp
       with_reducible rfl
      ·simp only [Act.put, pA, pB, pC]
       rfl
      refine pu 9 17 (bq 29 1023) ?_ ?_ (fun _ => ?_) ?_ ?_
      rotate_left 2
      ·go_simp
       with_reducible rfl
      ·simp only [Act.put, pA, pB, pC]
       rfl
      refine tk 10 18 (bq 29 2047) ?_ ?_ ?_ ?_ hHeld ?_
      rotate_left 2
      ·rintro w' ⟨s0_, s1_, s2_, s3_, s4_, s5_, s6_, s7_, s8_⟩
       go_simp
       with_reducible rfl
      ·simp only [Act.put, pA, pB, pC]
       rfl
      refine pu 11 19 (bq 29 4095) ?_ ?_ (fun _ => ?_) ?_ ?_
      rotate_left 2
      ·go_simp
       with_reducible rfl
      ·simp only [Act.put, pA, pB, pC]
       rfl
      refine tk 12 20 (bq 29 8191) ?_ ?_ ?_ ?_ hHeld ?_
      rotate_left 2
      ·rintro w' ⟨s0_, s1_, s2_, s3_, s4_, s5_, s6_, s7_, s8_⟩
       go_simp
       with_reducible rfl
      ·simp only [Act.put, pA, pB, pC]
       rfl
      refine on 13 21 (bq 29 16383) (fun K hK => ?_)
      refine goes_ Tryz.func28 (by kernel_rfl) rfl #[.agg #[.i a1, .b a2, .u a3, .i a4], .agg #[.i a5, .b a6, .u a7, .i a8]] (by first | rfl | go_simp) rfl rfl (by simp only [List.map_toArray, List.map_cons, List.map_nil] <;> rfl) ?_
      with_reducible refine (HC.out _).mono ?_
      rintro e w3 ⟨rfl, hb⟩
      refine ⟨_, rfl, ?_⟩
      have BX := BX.call hb
      have HBX := bl_trans HBX hb
      refine hK.out _ _ ⟨BX.cell 0, BX.cell 1, BX.cell 2, BX.cell 3, BX.cell 4, BX.cell 5, BX.cell 6, BX.cell 7, BX.cell 8⟩ (fun hHeld => ?_)
      clear hK K hb
      refine norm_ (a' := ?_) ?_ ?_
      rotate_left
      ·show Act.put _ (some 21) _ = _
       simp only [Act.put, pA, pB, pC]
       rfl
      refine pu 14 22 (bq 29 32767) ?_ ?_ (fun _ => ?_) ?_ ?_
      rotate_left 2
      ·go_simp
       with_reducible rfl
      ·simp only [Act.put, pA, pB, pC]
       rfl
      refine pu 15 23 (bq 29 65535) ?_ ?_ (fun _ => ?_) ?_ ?_
      rotate_left 2
      ·go_simp
       with_reducible rfl
      ·simp only [Act.put, pA, pB, pC]
       rfl
      refine pu 16 24 (bq 29 131071) ?_ ?_ (fun _ => ?_) ?_ ?_
      rotate_left 2
      ·go_simp
       with_reducible rfl
      ·simp only [Act.put, pA, pB, pC]
       rfl
      refine pu 17 25 (bq 29 262143) ?_ ?_ (fun _ => ?_) ?_ ?_
      rotate_left 2
      ·go_simp
       with_reducible rfl
      ·simp only [Act.put, pA, pB, pC]
       rfl
      refine tk 18 26 (bq 29 524287) ?_ ?_ ?_ ?_ hHeld ?_
      rotate_left 2
      ·rintro w' ⟨s0_, s1_, s2_, s3_, s4_, s5_, s6_, s7_, s8_⟩
       go_simp
       with_reducible rfl
      ·simp only [Act.put, pA, pB, pC]
       rfl
      refine on 19 27 (bq 29 1048575) (fun K hK => ?_)
      refine goes_ Tryz.func54 (by kernel_rfl) rfl #[.b false] (by first | rfl | go_simp) rfl rfl (by simp only [List.map_toArray, List.map_cons, List.map_nil] <;> rfl) ?_
      with_reducible refine (infN_lit _ _).mono ?_
      rintro e w4 ⟨rfl, hb⟩
      refine ⟨_, rfl, ?_⟩
      have BX := BX.call hb
      have HBX := bl_trans HBX hb
      refine hK.out _ _ ⟨BX.cell 0, BX.cell 1, BX.cell 2, BX.cell 3, BX.cell 4, BX.cell 5, BX.cell 6, BX.cell 7, BX.cell 8⟩ (fun hHeld => ?_)
      clear hK K hb
      refine norm_ (a' := ?_) ?_ ?_
      rotate_left
      ·show Act.put _ (some 27) _ = _
       simp only [Act.put, pA, pB, pC]
       rfl
      refine pu 20 28 (bq 29 2097151) ?_ ?_ (fun _ => ?_) ?_ ?_
      rotate_left 2
      ·go_simp
       with_reducible rfl
      ·simp only [Act.put, pA, pB, pC]
       rfl
      refine pu 21 29 (bq 29 4194303) ?_ ?_ (fun _ => ?_) ?_ ?_
      rotate_left 2
      ·go_simp
       with_reducible rfl
      ·simp only [Act.put, pA, pB, pC]
       rfl
      refine pu 22 30 (bq 29 8388607) ?_ ?_ (fun _ => ?_) ?_ ?_
      rotate_left 2
      ·go_simp
       with_reducible rfl
      ·simp only [Act.put, pA, pB, pC]
       rfl
      refine po 23 31 (bq 29 16777215) ?_ ?_ ?_
      rotate_left
      ·simp only [Act.put, pA, pB, pC]
       rfl
      refine po 24 32 (bq 29 33554431) ?_ ?_ ?_
      rotate_left
      ·simp only [Act.put, pA, pB, pC]
       rfl
      refine po 25 33 (bq 29 67108863) ?_ ?_ ?_
      rotate_left
      ·simp only [Act.put, pA, pB, pC]
       rfl
      refine po 26 34 (bq 29 134217727) ?_ ?_ ?_
      rotate_left
      ·simp only [Act.put, pA, pB, pC]
       rfl
      refine pu 27 35 (bq 29 268435455) ?_ ?_ (fun _ => ?_) ?_ ?_
      rotate_left 2
      ·go_simp
       with_reducible rfl
      ·simp only [Act.put, pA, pB, pC]
       rfl
      refine pu 28 2 (bq 29 536870911) ?_ ?_ (fun _ => ?_) ?_ ?_
      rotate_left 2
      ·go_simp
       with_reducible rfl
      ·simp only [Act.put, pA, pB, pC]
       rfl
      refine done_ (by kernel_rfl) ?_
      go_wp2
      go_ret
      exact ⟨by first | rfl | simp, HBX⟩
     ·skip
      go_enter Tryz.func27, Tryz.ntmps27
      go_wp2_with fail
      refine start_ (n := 29) (S := fun w' => w'.cell? ⟨w.heap.size, 0, none⟩ = some (.b false) ∧ w'.cell? ⟨w.heap.size, 1, none⟩ = some (.i a1) ∧ w'.cell? ⟨w.heap.size, 2, none⟩ = some (.b a2) ∧ w'.cell? ⟨w.heap.size, 3, none⟩ = some (.u a3) ∧ w'.cell? ⟨w.heap.size, 4, none⟩ = some (.i a4) ∧ w'.cell? ⟨w.heap.size, 5, none⟩ = some (.i a5) ∧ w'.cell? ⟨w.heap.size, 6, none⟩ = some (.b a6) ∧ w'.cell? ⟨w.heap.size, 7, none⟩ = some (.u a7) ∧ w'.cell? ⟨w.heap.size, 8, none⟩ = some (.i a8)) (ds := []) (bq 29 0) (by kernel_rfl) rfl rfl ⟨BX.cell 0, BX.cell 1, BX.cell 2, BX.cell 3, BX.cell 4, BX.cell 5, BX.cell 6, BX.cell 7, BX.cell 8⟩ (fun hHeld => ?_)
      refine pu 0 8 (bq 29 1) ?_ ?_ (fun _ => ?_) ?_ ?_
      rotate_left 2
      ·go_simp
       with_reducible rfl
      ·simp only [Act.put, pA, pB, pC]
       rfl
      refine tk 1 9 (bq 29 3) ?_ ?_ ?_ ?_ hHeld ?_
      rotate_left 2
      ·rintro w' ⟨s0_, s1_, s2_, s3_, s4_, s5_, s6_, s7_, s8_⟩
       go_simp
       with_reducible rfl
      ·simp only [Act.put, pA, pB, pC]
       rfl
      refine on 2 10 (bq 29 7) (fun K hK => ?_)
      refine goes_ Tryz.func53 (by kernel_rfl) rfl #[.agg #[.i a1, .b a2, .u a3, .i a4]] (by first | rfl | go_simp) rfl rfl (by simp only [List.map_toArray, List.map_cons, List.map_nil] <;> rfl) ?_
      with_reducible refine (HP.out _).mono ?_
      rintro e w1 ⟨rfl, hb⟩
      refine ⟨_, rfl, ?_⟩
      have BX := BX.call hb
      have HBX := bl_trans HBX hb
      refine hK.out _ _ ⟨BX.cell 0, BX.cell 1, BX.cell 2, BX.cell 3, BX.cell 4, BX.cell 5, BX.cell 6, BX.cell 7, BX.cell 8⟩ (fun hHeld => ?_)
      clear hK K hb
      refine norm_ (a' := ?_) ?_ ?_
      rotate_left
      ·show Act.put _ (some 10) _ = _
       simp only [Act.put, pA, pB, pC]
       rfl
      refine pu 3 11 (bq 29 15) ?_ ?_ (fun _ => ?_) ?_ ?_
      rotate_left 2
      ·go_simp
       with_reducible rfl
      ·simp only [Act.put, pA, pB, pC]
       rfl
      refine pu 4 12 (bq 29 31) ?_ ?_ (fun _ => ?_) ?_ ?_
      rotate_left 2
      ·go_simp
       with_reducible rfl
      ·simp only [Act.put, pA, pB, pC]
       rfl
      refine tk 5 13 (bq 29 63) ?_ ?_ ?_ ?_ hHeld ?_
      rotate_left 2
      ·rintro w' ⟨s0_, s1_, s2_, s3_, s4_, s5_, s6_, s7_, s8_⟩
       go_simp
       with_reducible rfl
      ·simp only [Act.put, pA, pB, pC]
       rfl
      refine on 6 14 (bq 29 127) (fun K hK => ?_)
      refine goes_ Tryz.func53 (by kernel_rfl) rfl #[.agg #[.i a5, .b a6, .u a7, .i a8]] (by first | rfl | go_simp) rfl rfl (by simp only [List.map_toArray, List.map_cons, List.map_nil] <;> rfl) ?_
      with_reducible refine (HQ.out _).mono ?_
      rintro e w2 ⟨rfl, hb⟩
      refine ⟨_, rfl, ?_⟩
      have BX := BX.call hb
      have HBX := bl_trans HBX hb
      refine hK.out _ _ ⟨BX.cell 0, BX.cell 1, BX.cell 2, BX.cell 3, BX.cell 4, BX.cell 5, BX.cell 6, BX.cell 7, BX.cell 8⟩ (fun hHeld => ?_)
      clear hK K hb
      refine norm_ (a' := ?_) ?_ ?_
      rotate_left
      ·show Act.put _ (some 14) _ = _
       simp only [Act.put, pA, pB, pC]
       rfl
      refine pu 7 15 (bq 29 255) ?_ ?_ (fun _ => ?_) ?_ ?_
      rotate_left 2
      ·go_simp
       with_reducible rfl
      ·simp only [Act.put, pA, pB, pC]
       rfl
      refine pu 8 16 (bq 29 511) ?_ ?_ (fun _ => ?_) ?_ ?_
      rotate_left 2
      ·go_simp
       with_reducible rfl
      ·simp only [Act.put, pA, pB, pC]
       rfl
      refine pu 9 17 (bq 29 1023) ?_ ?_ (fun _ => ?_) ?_ ?_
      rotate_left 2
      ·go_simp
       with_reducible rfl
      ·simp only [Act.put, pA, pB, pC]
       rfl
      refine tk 10 18 (bq 29 2047) ?_ ?_ ?_ ?_ hHeld ?_
      rotate_left 2
      ·rintro w' ⟨s0_, s1_, s2_, s3_, s4_, s5_, s6_, s7_, s8_⟩
       go_simp
       with_reducible rfl
      ·simp only [Act.put, pA, pB, pC]
       rfl
      refine pu 11 19 (bq 29 4095) ?_ ?_ (fun _ => ?_) ?_ ?_
      rotate_left 2
      ·go_simp
       with_reducible rfl
      ·simp only [Act.put, pA, pB, pC]
       rfl
      refine tk 12 20 (bq 29 8191) ?_ ?_ ?_ ?_ hHeld ?_
      rotate_left 2
      ·rintro w' ⟨s0_, s1_, s2_, s3_, s4_, s5_, s6_, s7_, s8_⟩
       go_simp
       with_reducible rfl
      ·simp only [Act.put, pA, pB, pC]
       rfl
      refine on 13 21 (bq 29 16383) (fun K hK => ?_)
      refine goes_ Tryz.func28 (by kernel_rfl) rfl #[.agg #[.i a1, .b a2, .u a3, .i a4], .agg #[.i a5, .b a6, .u a7, .i a8]] (by first | rfl | go_simp) rfl rfl (by simp only [List.map_toArray, List.map_cons, List.map_nil] <;> rfl) ?_
      with_reducible refine (HC.out _).mono ?_
      rintro e w3 ⟨rfl, hb⟩
      refine ⟨_, rfl, ?_⟩
      have BX := BX.call hb
      have HBX := bl_trans HBX hb
      refine hK.out _ _ ⟨BX.cell 0, BX.cell 1, BX.cell 2, BX.cell 3, BX.cell 4, BX.cell 5, BX.cell 6, BX.cell 7, BX.cell 8⟩ (fun hHeld => ?_)
      clear hK K hb
      refine norm_ (a' := ?_) ?_ ?_
      rotate_left
      ·show Act.put _ (some 21) _ = _
       simp only [Act.put, pA, pB, pC]
       rfl
      refine pu 14 22 (bq 29 32767) ?_ ?_ (fun _ => ?_) ?_ ?_
      rotate_left 2
      ·go_simp
       with_reducible rfl
      ·simp only [Act.put, pA, pB, pC]
       rfl
      refine pu 15 23 (bq 29 65535) ?_ ?_ (fun _ => ?_) ?_ ?_
      rotate_left 2
      ·go_simp
       with_reducible rfl
      ·simp only [Act.put, pA, pB, pC]
       rfl
      refine pu 16 24 (bq 29 131071) ?_ ?_ (fun _ => ?_) ?_ ?_
      rotate_left 2
      ·go_simp
       with_reducible rfl
      ·simp only [Act.put, pA, pB, pC]
       rfl
      refine pu 17 25 (bq 29 262143) ?_ ?_ (fun _ => ?_) ?_ ?_
      rotate_left 2
      ·go_simp
       with_reducible rfl
      ·simp only [Act.put, pA, pB, pC]
       rfl
      refine tk 18 26 (bq 29 524287) ?_ ?_ ?_ ?_ hHeld ?_
      rotate_left 2
      ·rintro w' ⟨s0_, s1_, s2_, s3_, s4_, s5_, s6_, s7_, s8_⟩
       go_simp
       with_reducible rfl
      ·simp only [Act.put, pA, pB, pC]
       rfl
      refine on 19 27 (bq 29 1048575) (fun K hK => ?_)
      refine goes_ Tryz.func54 (by kernel_rfl) rfl #[.b false] (by first | rfl | go_simp) rfl rfl (by simp only [List.map_toArray, List.map_cons, List.map_nil] <;> rfl) ?_
      with_reducible refine (infN_lit _ _).mono ?_
      rintro e w4 ⟨rfl, hb⟩
      refine ⟨_, rfl, ?_⟩
      have BX := BX.call hb
      have HBX := bl_trans HBX hb
      refine hK.out _ _ ⟨BX.cell 0, BX.cell 1, BX.cell 2, BX.cell 3, BX.cell 4, BX.cell 5, BX.cell 6, BX.cell 7, BX.cell 8⟩ (fun hHeld => ?_)
      clear hK K hb
      refine norm_ (a' := ?_) ?_ ?_
      rotate_left
      ·show Act.put _ (some 27) _ = _
       simp only [Act.put, pA, pB, pC]
       rfl
      refine pu 20 28 (bq 29 2097151) ?_ ?_ (fun _ => ?_) ?_ ?_
      rotate_left 2
      ·go_simp
       with_reducible rfl
      ·simp only [Act.put, pA, pB, pC]
       rfl
      refine pu 21 29 (bq 29 4194303) ?_ ?_ (fun _ => ?_) ?_ ?_
      rotate_left 2
      ·go_simp
       with_reducible rfl
      ·simp only [Act.put, pA, pB, pC]
       rfl
      refine pu 22 30 (bq 29 8388607) ?_ ?_ (fun _ => ?_) ?_ ?_
      rotate_left 2
      ·go_simp
       with_reducible rfl
      ·simp only [Act.put, pA, pB, pC]
       rfl
      refine pu 23 31 (bq 29 16777215) ?_ ?_ (fun _ => ?_) ?_ ?_
      rotate_left 2
      ·go_simp
       with_reducible rfl
      ·simp only [Act.put, pA, pB, pC]
       rfl
      refine tk 24 32 (bq 29 33554431) ?_ ?_ ?_ ?_ hHeld ?_
      rotate_left 2
      ·rintro w' ⟨s0_, s1_, s2_, s3_, s4_, s5_, s6_, s7_, s8_⟩
       go_simp
       with_reducible rfl
      ·simp only [Act.put, pA, pB, pC]
       rfl
      refine on 25 33 (bq 29 67108863) (fun K hK => ?_)
      refine goes_ Tryz.func54 (by kernel_rfl) rfl #[.b true] (by first | rfl | go_simp) rfl rfl (by simp only [List.map_toArray, List.map_cons, List.map_nil] <;> rfl) ?_
      with_reducible refine (infN_lit _ _).mono ?_
      rintro e w5 ⟨rfl, hb⟩
      refine ⟨_, rfl, ?_⟩
      have BX := BX.call hb
      have HBX := bl_trans HBX hb
      refine hK.out _ _ ⟨BX.cell 0, BX.cell 1, BX.cell 2, BX.cell 3, BX.cell 4, BX.cell 5, BX.cell 6, BX.cell 7, BX.cell 8⟩ (fun hHeld => ?_)
      clear hK K hb
      refine norm_ (a' := ?_) ?_ ?_
      rotate_left
      ·show Act.put _ (some 33) _ = _
       simp only [Act.put, pA, pB, pC]
       rfl
      refine pu 26 34 (bq 29 134217727) ?_ ?_ (fun _ => ?_) ?_ ?_
      rotate_left 2
      ·go_simp
       with_reducible rfl
      ·simp only [Act.put, pA, pB, pC]
       rfl
      refine pu 27 35 (bq 29 268435455) ?_ ?_ (fun _ => ?_) ?_ ?_
      rotate_left 2
      ·go_simp
       with_reducible rfl
      ·simp only [Act.put, pA, pB, pC]
       rfl
      refine pu 28 2 (bq 29 536870911) ?_ ?_ (fun _ => ?_) ?_ ?_
      rotate_left 2
      ·go_simp
       with_reducible rfl
      ·simp only [Act.put, pA, pB, pC]
       rfl
      refine done_ (by kernel_rfl) ?_
      go_wp2
      go_ret
      exact ⟨by first | rfl | simp, HBX⟩
 ·clear hl hh HP HQ HC
  have BX := (Blk.new w 34 (#[.b true, .i a1, .b a2, .u a3, .i a4, .i a5, .b a6, .u a7, .i a8])).drew
  have HBX := bl_drew (bl_alloc (Below.refl w.heap.size w) (.cells #[.b true, .i a1, .b a2, .u a3, .i a4, .i a5, .b a6, .u a7, .i a8] 34))
  go_enter Tryz.func27, Tryz.ntmps27
  go_wp2_with fail
  refine start_ (n := 4) (S := fun w' => w'.cell? ⟨w.heap.size, 0, none⟩ = some (.b true) ∧ w'.cell? ⟨w.heap.size, 1, none⟩ = some (.i a1) ∧ w'.cell? ⟨w.heap.size, 2, none⟩ = some (.b a2) ∧ w'.cell? ⟨w.heap.size, 3, none⟩ = some (.u a3) ∧ w'.cell? ⟨w.heap.size, 4, none⟩ = some (.i a4) ∧ w'.cell? ⟨w.heap.size, 5, none⟩ = some (.i a5) ∧ w'.cell? ⟨w.heap.size, 6, none⟩ = some (.b a6) ∧ w'.cell? ⟨w.heap.size, 7, none⟩ = some (.u a7) ∧ w'.cell? ⟨w.heap.size, 8, none⟩ = some (.i a8)) (ds := []) (bq 4 0) (by kernel_rfl) rfl rfl ⟨BX.cell 0, BX.cell 1, BX.cell 2, BX.cell 3, BX.cell 4, BX.cell 5, BX.cell 6, BX.cell 7, BX.cell 8⟩ (fun hHeld => ?_)
  refine tk 0 5 (bq 4 1) ?_ ?_ ?_ ?_ hHeld ?_
  rotate_left 2
  ·rintro w' ⟨s0_, s1_, s2_, s3_, s4_, s5_, s6_, s7_, s8_⟩
   go_simp
   with_reducible rfl
  ·simp only [Act.put, pA, pB, pC]
   rfl
  refine on 1 6 (bq 4 3) (fun K hK => ?_)
  refine goes_ Tryz.func35 (by kernel_rfl) rfl #[] (by first | rfl | go_simp) rfl rfl (by simp only [List.map_toArray, List.map_cons, List.map_nil] <;> rfl) ?_
  with_reducible refine (noneI_lit _).mono ?_
  rintro e w1 ⟨rfl, hb⟩
  refine ⟨_, rfl, ?_⟩
  have BX := BX.call hb
  have HBX := bl_trans HBX hb
  refine hK.out _ _ ⟨BX.cell 0, BX.cell 1, BX.cell 2, BX.cell 3, BX.cell 4, BX.cell 5, BX.cell 6, BX.cell 7, BX.cell 8⟩ (fun hHeld => ?_)
  clear hK K hb
  refine norm_ (a' := ?_) ?_ ?_
  rotate_left
  ·show Act.put _ (some 6) _ = _
   simp only [Act.put, pA, pB, pC]
   rfl
  refine pu 2 7 (bq 4 7) ?_ ?_ (fun _ => ?_) ?_ ?_
  rotate_left 2
  ·go_simp
   with_reducible rfl
  ·simp only [Act.put, pA, pB, pC]
   rfl
  refine pu 3 2 (bq 4 15) ?_ ?_ (fun _ => ?_) ?_ ?_
  rotate_left 2
  ·go_simp
   with_reducible rfl
  ·simp only [Act.put, pA, pB, pC]
   rfl
  refine done_ (by kernel_rfl) ?_
  go_wp2
  go_ret
  exact ⟨by first | rfl | simp, HBX⟩
end Go.Proofs.YteabdeohhmbclaaGreat.Wk
