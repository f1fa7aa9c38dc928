/- Walks: math/bits.Mul64, arith.Sub, arith.Mul, arith.Half. -/
import Derived.Test.YteabdeohhmbclaaGreatAriIy
import Derived.Test.YteabdeohhmbclaaGreatIvXy
import Derived.Test.YteabdeohhmbclaaGreatNumCy
import Derived.Lib.Mul64
import Derived.Laws.Bits64b
import Derived.Laws.BitsAllLaws
namespace Go.Proofs.YteabdeohhmbclaaGreat.Wk
open Go.RowKit Go.Proofs.Pl Go.Proofs.YteabdeohhmbclaaGreatW.PrintLast
set_option linter.unusedSimpArgs false
set_option linter.unusedVariables false

namespace M64
theorem maskN (a : Nat) (ha : a < 18446744073709551616) : bits .and .u64 (a : Int) 4294967295 = ((a % 4294967296 : Nat) : Int) := by
 have h := bits_and_u64_nat a 4294967295 ha (by omega)
 have e : a &&& 4294967295 = a % 4294967296 := Nat.and_two_pow_sub_one_eq_mod a 32
 rw [e] at h
 exact h
theorem divN (a : Nat) : (a : Int) / 4294967296 = ((a / 4294967296 : Nat) : Int) := by omega
theorem mulN (a b : Nat) : (a : Int) * (b : Int) = ((a * b : Nat) : Int) := (Int.natCast_mul a b).symm
theorem addN (a b : Nat) : (a : Int) + (b : Int) = ((a + b : Nat) : Int) := (Int.natCast_add a b).symm
theorem wrapN (a : Nat) (ha : a < 18446744073709551616) : IntKind.u64.wrap (a : Int) = (a : Int) := by rw [IntKind.wrap_u64]; omega
theorem wrapM (a : Nat) : IntKind.u64.wrap (a : Int) = ((a % 18446744073709551616 : Nat) : Int) := by rw [IntKind.wrap_u64]; omega
end M64
set_option maxHeartbeats 1000000 in
theorem mul64_calls (x y : Nat) (hx : x < 18446744073709551616) (hy : y < 18446744073709551616) (w : World) :
  Calls Tryz.prog 105 #[.u x, .u y] w fun e w' => e = .returned (.tuple #[.u ((x * y / 18446744073709551616 : Nat) : Int), .u ((x * y % 18446744073709551616 : Nat) : Int)]) ∧ Below w.heap.size w w' := by
 obtain ⟨bd, bt, bw, hhi⟩ := Lib.mul64_hi x y hx hy
 have ba := Lib.half_mul_le (a := x / 4294967296) (b := y / 4294967296) (by omega) (by omega)
 have bb := Lib.half_mul_le (a := x / 4294967296) (b := y % 4294967296) (by omega) (by omega)
 have bc := Lib.half_mul_le (a := x % 4294967296) (b := y / 4294967296) (by omega) (by omega)
 have ba' : x / 4294967296 * (y / 4294967296) < 18446744073709551616 := by omega
 have bb' : x / 4294967296 * (y % 4294967296) < 18446744073709551616 := by omega
 have bc' : x % 4294967296 * (y / 4294967296) < 18446744073709551616 := by omega
 have bh1 : x / 4294967296 * (y / 4294967296) + (x / 4294967296 * (y % 4294967296) + x % 4294967296 * (y % 4294967296) / 4294967296) / 4294967296 < 18446744073709551616 := by omega
 have bh : x / 4294967296 * (y / 4294967296) + (x / 4294967296 * (y % 4294967296) + x % 4294967296 * (y % 4294967296) / 4294967296) / 4294967296 + ((x / 4294967296 * (y % 4294967296) + x % 4294967296 * (y % 4294967296) / 4294967296) % 4294967296 + x % 4294967296 * (y / 4294967296)) / 4294967296 < 18446744073709551616 := by omega
 go_enter Tryz.func105, Tryz.ntmps105
 go_wp2
 simp only [M64.maskN x hx, M64.maskN y hy, M64.divN, M64.mulN, M64.addN, M64.wrapN _ bd, M64.wrapN _ bb', M64.wrapN _ bt, M64.maskN _ bt, M64.wrapN _ bc', M64.wrapN _ bw, M64.wrapN _ ba', M64.wrapN _ bh1, M64.wrapN _ bh, M64.wrapM (x * y)]
 rw [hhi]
 go_ret2
 exact ⟨rfl, Below.refl _ _⟩

set_option maxRecDepth 100000 in
set_option maxHeartbeats 4000000 in
theorem subN_calls (x0 : Int) (x1 : Bool) (x2 x3 : Int) (y0 : Int) (y1 : Bool) (y2 y3 : Int) (up : Bool) (wx : Wf ⟨x0, x1, x2, x3⟩) (wy : Wf ⟨y0, y1, y2, y3⟩) (w : World) :
  Calls Tryz.prog 58 #[.agg #[.i x0, .b x1, .u x2, .i x3], .agg #[.i y0, .b y1, .u y2, .i y3], .b up] w fun e w' => e = .returned (.agg #[.i (subN ⟨x0, x1, x2, x3⟩ ⟨y0, y1, y2, y3⟩ up).k, .b (subN ⟨x0, x1, x2, x3⟩ ⟨y0, y1, y2, y3⟩ up).n, .u (subN ⟨x0, x1, x2, x3⟩ ⟨y0, y1, y2, y3⟩ up).m, .i (subN ⟨x0, x1, x2, x3⟩ ⟨y0, y1, y2, y3⟩ up).e]) ∧ Below w.heap.size w w' := by
 unfold subN
 have HN := Lib.hid (fun W => negN_calls y0 y1 y2 y3 W)
 have wn := (negN_all _ wy).2.1
 generalize negN ⟨y0, y1, y2, y3⟩ = c at HN wn ⊢
 obtain ⟨c0, c1, c2, c3⟩ := c
 have HA := Lib.hid (fun W => addN_calls ⟨x0, x1, x2, x3⟩ ⟨c0, c1, c2, c3⟩ wx wn up W)
 generalize addN _ _ _ = r at HA ⊢
 obtain ⟨r0, r1, r2, r3⟩ := r
 dsimp only at HN HA ⊢
 clear wx wy wn
 go_enter Tryz.func58, Tryz.ntmps58
 go_wp2_with fail
 have BX := (((Blk.new w 32 #[.i x0, .b x1, .u x2, .i x3]).alloc (.cells #[.i y0, .b y1, .u y2, .i y3] 32)).alloc (.cells #[.i 0, .b false, .u 0, .i 0] 32)).drew
 have BY := ((Blk.new1 w (.cells #[.i x0, .b x1, .u x2, .i x3] 32) 32 #[.i y0, .b y1, .u y2, .i y3]).alloc (.cells #[.i 0, .b false, .u 0, .i 0] 32)).drew
 have BR0 := (Blk.new2 w (.cells #[.i x0, .b x1, .u x2, .i x3] 32) (.cells #[.i y0, .b y1, .u y2, .i y3] 32) 32 #[.i 0, .b false, .u 0, .i 0]).drew
 have BR : Blk _ (w.heap.size + 1 + 1) _ _ := BR0
 clear BR0
 have HB := bl_drew (bl_alloc (bl_alloc (bl_alloc (Below.refl w.heap.size w) (.cells #[.i x0, .b x1, .u x2, .i x3] 32)) (.cells #[.i y0, .b y1, .u y2, .i y3] 32)) (.cells #[.i 0, .b false, .u 0, .i 0] 32))
 refine start_ (n := 6) (S := fun w' => w'.cell? ⟨w.heap.size, 0, none⟩ = some (.i x0) ∧ w'.cell? ⟨w.heap.size, 1, none⟩ = some (.b x1) ∧ w'.cell? ⟨w.heap.size, 2, none⟩ = some (.u x2) ∧ w'.cell? ⟨w.heap.size, 3, none⟩ = some (.i x3) ∧ w'.cell? ⟨(w.heap.size + 1), 0, none⟩ = some (.i y0) ∧ w'.cell? ⟨(w.heap.size + 1), 1, none⟩ = some (.b y1) ∧ w'.cell? ⟨(w.heap.size + 1), 2, none⟩ = some (.u y2) ∧ w'.cell? ⟨(w.heap.size + 1), 3, none⟩ = some (.i y3)) (ds := [5]) (bq 6 0) (by kernel_rfl) rfl rfl ⟨BX.cell 0, BX.cell 1, BX.cell 2, BX.cell 3, BY.cell 0, BY.cell 1, BY.cell 2, BY.cell 3⟩ (fun hHeld => ?_)
 generalize ((((w.alloc (.cells #[.i x0, .b x1, .u x2, .i x3] 32)).alloc (.cells #[.i y0, .b y1, .u y2, .i y3] 32)).alloc (.cells #[.i 0, .b false, .u 0, .i 0] 32)).drew) = W at BX BY BR HB hHeld ⊢
 refine tk 0 7 (bq 6 1) ?_ ?_ ?_ ?_ hHeld ?_
 rotate_left 2
 ·rintro w' ⟨s0_, s1_, s2_, s3_, s4_, s5_, s6_, s7_⟩
  go_simp
  with_reducible rfl
 ·simp only [Act.put, pA, pB, pC]
  rfl
 refine tk 1 8 (bq 6 3) ?_ ?_ ?_ ?_ hHeld ?_
 rotate_left 2
 ·rintro w' ⟨s0_, s1_, s2_, s3_, s4_, s5_, s6_, s7_⟩
  go_simp
  with_reducible rfl
 ·simp only [Act.put, pA, pB, pC]
  rfl
 refine pu 3 10 (bq 6 11) ?_ ?_ (fun _ => ?_) ?_ ?_
 rotate_left 2
 ·go_simp
  with_reducible rfl
 ·simp only [Act.put, pA, pB, pC]
  rfl
 refine on 2 9 (bq 6 15) (fun K hK => ?_)
 refine goes_ Tryz.func30 (by kernel_rfl) rfl #[.agg #[.i y0, .b y1, .u y2, .i y3]] (by first | rfl | go_simp) rfl rfl (by simp only [List.map_toArray, List.map_cons, List.map_nil] <;> rfl) ?_
 with_reducible refine (HN.out _).mono ?_
 rintro e w1 ⟨rfl, hb⟩
 refine ⟨_, rfl, ?_⟩
 have BX := BX.call hb
 have BY := BY.call hb
 have BR := BR.call hb
 have HB := bl_trans HB hb
 refine hK.out _ _ ⟨BX.cell 0, BX.cell 1, BX.cell 2, BX.cell 3, BY.cell 0, BY.cell 1, BY.cell 2, BY.cell 3⟩ (fun hHeld => ?_)
 clear hK K hb
 refine norm_ (a' := ?_) ?_ ?_
 rotate_left
 ·show Act.put _ (some 9) _ = _
  simp only [Act.put, pA, pB, pC]
  rfl
 refine on 4 11 (bq 6 31) (fun K hK => ?_)
 refine goes_ Tryz.func74 (by kernel_rfl) rfl #[.agg #[.i x0, .b x1, .u x2, .i x3], .agg #[.i c0, .b c1, .u c2, .i c3], .b up] (by first | rfl | go_simp) rfl rfl (by simp only [List.map_toArray, List.map_cons, List.map_nil] <;> rfl) ?_
 with_reducible refine (HA.out _).mono ?_
 rintro e w2 ⟨rfl, hb⟩
 refine ⟨_, rfl, ?_⟩
 have BX := BX.call hb
 have BY := BY.call hb
 have BR := BR.call hb
 have HB := bl_trans HB hb
 refine hK.out _ _ ⟨BX.cell 0, BX.cell 1, BX.cell 2, BX.cell 3, BY.cell 0, BY.cell 1, BY.cell 2, BY.cell 3⟩ (fun hHeld => ?_)
 clear hK K hb
 refine norm_ (a' := ?_) ?_ ?_
 rotate_left
 ·show Act.put _ (some 11) _ = _
  simp only [Act.put, pA, pB, pC]
  rfl
 obtain ⟨⟨q0, q1, q2, q3⟩, ⟨k0, k1, k2, k3⟩⟩ := BR.c4
 obtain ⟨W6, hW6, B6, _, hL, _⟩ := put4 BR (.i r0) (.b r1) (.u r2) (.i r3)
 have HB6 := hL w HB (by omega)
 refine last_ (i := 5) (N := none) (bq 6 63) rfl rfl (by kernel_rfl) (by decide) (fun K hK => ?_)
 refine skip_ (w1 := ?_) (by rfl) rfl ?_ ?_
 rotate_left
 ·go_simp
  rfl
 refine hK.out _ _ ?_
 clear hK K
 refine done_ (by kernel_rfl) ?_
 clear hHeld BX BY HB
 go_wp2
 exact bodyPost_ret (results_cell_row rfl _ _ (w.heap.size + 1 + 1) 32 _ (0, 0) _ rfl B6 Tryz.underlying32 rfl (by kernel_rfl)) rfl ⟨rfl, HB6⟩
theorem mul_top (n : Bool) (M m : Nat) (e : Int) (up : Bool) (hM0 : 9223372036854775808 ≤ M) (hM : M < 18446744073709551616) (hm0 : 9223372036854775808 ≤ m) (hm : m < 18446744073709551616) (h : 9223372036854775808 ≤ M * m / 18446744073709551616) :
  roundAt n (M * m) e up = growN n ((M * m / 18446744073709551616 : Nat) : Int) (e + 64) (decide (M * m % 18446744073709551616 ≠ 0)) (up != n) := by
 have e64 : (2 : Nat) ^ 64 = 18446744073709551616 := by decide
 have h1 : M * m < 18446744073709551616 * 18446744073709551616 := Nat.mul_lt_mul'' hM hm
 have hN : Norm (M * m) (M * m / 18446744073709551616) 64 (M * m % 18446744073709551616) := by
  unfold Norm
  rw [e64]
  exact ⟨by omega, by omega, h, by omega⟩
 rw [norm_round hN]
 rfl
theorem mul_low (n : Bool) (M m : Nat) (e : Int) (up : Bool) (hM0 : 9223372036854775808 ≤ M) (hM : M < 18446744073709551616) (hm0 : 9223372036854775808 ≤ m) (hm : m < 18446744073709551616) (h : M * m / 18446744073709551616 < 9223372036854775808) :
  roundAt n (M * m) e up = growN n ((M * m / 18446744073709551616 * 2 + M * m % 18446744073709551616 / 9223372036854775808 : Nat) : Int) (e + 63) (decide (M * m % 18446744073709551616 * 2 % 18446744073709551616 ≠ 0)) (up != n) := by
 have e63 : (2 : Nat) ^ 63 = 9223372036854775808 := by decide
 have h1 : 9223372036854775808 * 9223372036854775808 ≤ M * m := Nat.mul_le_mul hM0 hm0
 have hN : Norm (M * m) (M * m / 18446744073709551616 * 2 + M * m % 18446744073709551616 / 9223372036854775808) 63 (M * m % 9223372036854775808) := by
  unfold Norm
  rw [e63]
  exact ⟨by omega, by omega, by omega, by omega⟩
 rw [norm_round hN]
 have : decide (M * m % 9223372036854775808 ≠ 0) = decide (M * m % 18446744073709551616 * 2 % 18446744073709551616 ≠ 0) := by
  rw [decide_eq_decide]; omega
 rw [this]
 rfl
set_option maxRecDepth 100000 in
set_option maxHeartbeats 4000000 in
theorem mul_zero_calls (x0 : Int) (x1 : Bool) (x2 x3 : Int) (y0 : Int) (y1 : Bool) (y2 y3 : Int) (up : Bool) (f0 : Int) (f1 : Bool) (f2 f3 g0 : Int) (g1 : Bool) (g2 g3 : Int) (hc : f0 = 0 ∨ (f0 ≠ 0 ∧ g0 = 0))
  (hFx : fairN ⟨x0, x1, x2, x3⟩ = ⟨f0, f1, f2, f3⟩) (hFy : fairN ⟨y0, y1, y2, y3⟩ = ⟨g0, g1, g2, g3⟩) (w : World) :
  Calls Tryz.prog 103 #[.agg #[.i x0, .b x1, .u x2, .i x3], .agg #[.i y0, .b y1, .u y2, .i y3], .b up] w fun e w' => e = .returned (.agg #[.i 0, .b false, .u 0, .i 0]) ∧ Below w.heap.size w w' := by
 rcases hc with rfl | ⟨h1, rfl⟩
 ·skip
  have HFx := Lib.hid (fun W => afair_calls x0 x1 x2 x3 W)
  have HFy := Lib.hid (fun W => afair_calls y0 y1 y2 y3 W)
  rw [hFx] at HFx
  rw [hFy] at HFy
  dsimp only at HFx HFy
  clear hFx hFy
  have X0 := ((Blk.new w 32 #[.i x0, .b x1, .u x2, .i x3]).alloc (.cells #[.i y0, .b y1, .u y2, .i y3] 32)).alloc (.cells #[.i 0, .b false, .u 0, .i 0] 32)
  have Y0 := (Blk.new1 w (.cells #[.i x0, .b x1, .u x2, .i x3] 32) 32 #[.i y0, .b y1, .u y2, .i y3]).alloc (.cells #[.i 0, .b false, .u 0, .i 0] 32)
  have BR0 := Blk.new2 w (.cells #[.i x0, .b x1, .u x2, .i x3] 32) (.cells #[.i y0, .b y1, .u y2, .i y3] 32) 32 #[.i 0, .b false, .u 0, .i 0]
  have HB0 := bl_alloc (bl_alloc (bl_alloc (Below.refl w.heap.size w) (.cells #[.i x0, .b x1, .u x2, .i x3] 32)) (.cells #[.i y0, .b y1, .u y2, .i y3] 32)) (.cells #[.i 0, .b false, .u 0, .i 0] 32)
  go_enter Tryz.func103, Tryz.ntmps103
  go_wp2_with fail
  replace X0 := X0.drew
  replace Y0 := Y0.drew
  replace BR0 := BR0.drew
  replace HB0 := bl_drew HB0
  refine start_ (n := 6) (S := fun w' => w'.cell? ⟨w.heap.size, 0, none⟩ = some (.i x0) ∧ w'.cell? ⟨w.heap.size, 1, none⟩ = some (.b x1) ∧ w'.cell? ⟨w.heap.size, 2, none⟩ = some (.u x2) ∧ w'.cell? ⟨w.heap.size, 3, none⟩ = some (.i x3) ∧ w'.cell? ⟨w.heap.size + 1, 0, none⟩ = some (.i y0) ∧ w'.cell? ⟨w.heap.size + 1, 1, none⟩ = some (.b y1) ∧ w'.cell? ⟨w.heap.size + 1, 2, none⟩ = some (.u y2) ∧ w'.cell? ⟨w.heap.size + 1, 3, none⟩ = some (.i y3)) (ds := [4,5]) (bq 6 0) (by kernel_rfl) rfl rfl ⟨X0.cell 0, X0.cell 1, X0.cell 2, X0.cell 3, Y0.cell 0, Y0.cell 1, Y0.cell 2, Y0.cell 3⟩ (fun hHeld => ?_)
  generalize (((w.alloc (.cells #[.i x0, .b x1, .u x2, .i x3] 32)).alloc (.cells #[.i y0, .b y1, .u y2, .i y3] 32)).alloc (.cells #[.i 0, .b false, .u 0, .i 0] 32)).drew = W0 at X0 Y0 BR0 HB0 hHeld ⊢
  refine tk 0 11 (bq 6 1) ?_ ?_ ?_ ?_ hHeld ?_
  rotate_left 2
  ·rintro w' ⟨s0_, s1_, s2_, s3_, s4_, s5_, s6_, s7_⟩
   go_simp
   with_reducible rfl
  ·simp only [Act.put, pA, pB, pC]
   rfl
  refine tk 2 13 (bq 6 5) ?_ ?_ ?_ ?_ hHeld ?_
  rotate_left 2
  ·rintro w' ⟨s0_, s1_, s2_, s3_, s4_, s5_, s6_, s7_⟩
   go_simp
   with_reducible rfl
  ·simp only [Act.put, pA, pB, pC]
   rfl
  refine on 1 12 (bq 6 7) (fun K hK => ?_)
  refine goes_ Tryz.func82 (by kernel_rfl) rfl #[.agg #[.i x0, .b x1, .u x2, .i x3]] (by first | rfl | go_simp) rfl rfl (by simp only [List.map_toArray, List.map_cons, List.map_nil] <;> rfl) ?_
  with_reducible refine (HFx.out W0).mono ?_
  rintro e w1 ⟨rfl, hb⟩
  refine ⟨_, rfl, ?_⟩
  have X1 := X0.call hb
  have Y1 := Y0.call hb
  have BR1 := BR0.call hb
  have HB1 := bl_trans HB0 hb
  refine hK.out _ _ ⟨X1.cell 0, X1.cell 1, X1.cell 2, X1.cell 3, Y1.cell 0, Y1.cell 1, Y1.cell 2, Y1.cell 3⟩ (fun hHeld => ?_)
  clear hK K hb
  refine norm_ (a' := ?_) ?_ ?_
  rotate_left
  ·show Act.put _ (some 12) _ = _
   simp only [Act.put, pA, pB, pC]
   rfl
  refine on 3 14 (bq 6 15) (fun K hK => ?_)
  refine goes_ Tryz.func82 (by kernel_rfl) rfl #[.agg #[.i y0, .b y1, .u y2, .i y3]] (by first | rfl | go_simp) rfl rfl (by simp only [List.map_toArray, List.map_cons, List.map_nil] <;> rfl) ?_
  with_reducible refine (HFy.out w1).mono ?_
  rintro e w2 ⟨rfl, hb⟩
  refine ⟨_, rfl, ?_⟩
  have X2 := X1.call hb
  have Y2 := Y1.call hb
  have BR2 := BR1.call hb
  have HB2 := bl_trans HB1 hb
  refine hK.out _ _ ⟨X2.cell 0, X2.cell 1, X2.cell 2, X2.cell 3, Y2.cell 0, Y2.cell 1, Y2.cell 2, Y2.cell 3⟩ (fun hHeld => ?_)
  clear hK K hb
  refine norm_ (a' := ?_) ?_ ?_
  rotate_left
  ·show Act.put _ (some 14) _ = _
   simp only [Act.put, pA, pB, pC]
   rfl
  obtain ⟨⟨q0, q1, q2, q3⟩, ⟨k0, k1, k2, k3⟩⟩ := X2.c4
  obtain ⟨W3, hW3, X3, hK3, hBl3, hsz3⟩ := put4 X2 (.i 0) (.b f1) (.u f2) (.i f3)
  have Y3 := hK3 _ _ _ (by omega) Y2
  have BR3 := hK3 _ _ _ (by omega) BR2
  have HB3 := hBl3 w HB2 (Nat.le_refl _)
  refine last_ (i := 4) (N := none) (bq 6 31) rfl rfl (by kernel_rfl) (by decide) (fun K hK => ?_)
  refine skip_ (w1 := ?_) (by rfl) rfl ?_ ?_
  rotate_left
  ·go_simp
   rfl
  refine hK.out _ _ ?_
  clear hK K
  try rw [hW3]
  clear q0 q1 q2 q3 k0 k1 k2 k3 hW3 hK3 hBl3 hsz3
  obtain ⟨⟨q0, q1, q2, q3⟩, ⟨k0, k1, k2, k3⟩⟩ := Y3.c4
  obtain ⟨W4, hW4, Y4, hK4, hBl4, hsz4⟩ := put4 Y3 (.i g0) (.b g1) (.u g2) (.i g3)
  have X4 := hK4 _ _ _ (by omega) X3
  have BR4 := hK4 _ _ _ (by omega) BR3
  have HB4 := hBl4 w HB3 (Nat.le_succ _)
  refine last_ (i := 5) (N := none) (bq 6 63) rfl rfl (by kernel_rfl) (by decide) (fun K hK => ?_)
  refine skip_ (w1 := ?_) (by rfl) rfl ?_ ?_
  rotate_left
  ·go_simp
   rfl
  refine hK.out _ _ ?_
  clear hK K
  try rw [hW4]
  clear q0 q1 q2 q3 k0 k1 k2 k3 hW4 hK4 hBl4 hsz4 hHeld
  refine done_ (by kernel_rfl) ?_
  obtain ⟨⟨a0, a1, a2, a3⟩, ⟨m0, m1, m2, m3⟩⟩ := X4.c4
  obtain ⟨⟨b0, b1, b2, b3⟩, ⟨n0, n1, n2, n3⟩⟩ := Y4.c4
  clear X0 Y0 BR0 HB0 X1 Y1 BR1 HB1 X2 Y2 BR2 HB2 X3 Y3 BR3 HB3
  go_wp2_with (refine wpList_stG rfl 32 (.tmp 6) (.tmp 29) rfl (w.heap.size + 1 + 1) _ #[.i 0, .b false, .u 0, .i 0] BR4 rfl rfl (by kernel_rfl) rfl (by simp [Value.oneCell']) ?_; intro W8 B8 P8; have HB8 := P8.bel HB4 (by omega))
  exact bodyPost_ret (results_cell_row rfl _ _ (w.heap.size + 1 + 1) 32 _ (0, 0) _ rfl B8 Tryz.underlying32 rfl (by kernel_rfl)) rfl ⟨rfl, HB8⟩
 ·have h2 : (f0 == 0) = false := beq_eq_false_iff_ne.2 h1
  have HFx := Lib.hid (fun W => afair_calls x0 x1 x2 x3 W)
  have HFy := Lib.hid (fun W => afair_calls y0 y1 y2 y3 W)
  rw [hFx] at HFx
  rw [hFy] at HFy
  dsimp only at HFx HFy
  clear hFx hFy
  have X0 := ((Blk.new w 32 #[.i x0, .b x1, .u x2, .i x3]).alloc (.cells #[.i y0, .b y1, .u y2, .i y3] 32)).alloc (.cells #[.i 0, .b false, .u 0, .i 0] 32)
  have Y0 := (Blk.new1 w (.cells #[.i x0, .b x1, .u x2, .i x3] 32) 32 #[.i y0, .b y1, .u y2, .i y3]).alloc (.cells #[.i 0, .b false, .u 0, .i 0] 32)
  have BR0 := Blk.new2 w (.cells #[.i x0, .b x1, .u x2, .i x3] 32) (.cells #[.i y0, .b y1, .u y2, .i y3] 32) 32 #[.i 0, .b false, .u 0, .i 0]
  have HB0 := bl_alloc (bl_alloc (bl_alloc (Below.refl w.heap.size w) (.cells #[.i x0, .b x1, .u x2, .i x3] 32)) (.cells #[.i y0, .b y1, .u y2, .i y3] 32)) (.cells #[.i 0, .b false, .u 0, .i 0] 32)
  go_enter Tryz.func103, Tryz.ntmps103
  go_wp2_with fail
  replace X0 := X0.drew
  replace Y0 := Y0.drew
  replace BR0 := BR0.drew
  replace HB0 := bl_drew HB0
  refine start_ (n := 6) (S := fun w' => w'.cell? ⟨w.heap.size, 0, none⟩ = some (.i x0) ∧ w'.cell? ⟨w.heap.size, 1, none⟩ = some (.b x1) ∧ w'.cell? ⟨w.heap.size, 2, none⟩ = some (.u x2) ∧ w'.cell? ⟨w.heap.size, 3, none⟩ = some (.i x3) ∧ w'.cell? ⟨w.heap.size + 1, 0, none⟩ = some (.i y0) ∧ w'.cell? ⟨w.heap.size + 1, 1, none⟩ = some (.b y1) ∧ w'.cell? ⟨w.heap.size + 1, 2, none⟩ = some (.u y2) ∧ w'.cell? ⟨w.heap.size + 1, 3, none⟩ = some (.i y3)) (ds := [4,5]) (bq 6 0) (by kernel_rfl) rfl rfl ⟨X0.cell 0, X0.cell 1, X0.cell 2, X0.cell 3, Y0.cell 0, Y0.cell 1, Y0.cell 2, Y0.cell 3⟩ (fun hHeld => ?_)
  generalize (((w.alloc (.cells #[.i x0, .b x1, .u x2, .i x3] 32)).alloc (.cells #[.i y0, .b y1, .u y2, .i y3] 32)).alloc (.cells #[.i 0, .b false, .u 0, .i 0] 32)).drew = W0 at X0 Y0 BR0 HB0 hHeld ⊢
  refine tk 0 11 (bq 6 1) ?_ ?_ ?_ ?_ hHeld ?_
  rotate_left 2
  ·rintro w' ⟨s0_, s1_, s2_, s3_, s4_, s5_, s6_, s7_⟩
   go_simp
   with_reducible rfl
  ·simp only [Act.put, pA, pB, pC]
   rfl
  refine tk 2 13 (bq 6 5) ?_ ?_ ?_ ?_ hHeld ?_
  rotate_left 2
  ·rintro w' ⟨s0_, s1_, s2_, s3_, s4_, s5_, s6_, s7_⟩
   go_simp
   with_reducible rfl
  ·simp only [Act.put, pA, pB, pC]
   rfl
  refine on 1 12 (bq 6 7) (fun K hK => ?_)
  refine goes_ Tryz.func82 (by kernel_rfl) rfl #[.agg #[.i x0, .b x1, .u x2, .i x3]] (by first | rfl | go_simp) rfl rfl (by simp only [List.map_toArray, List.map_cons, List.map_nil] <;> rfl) ?_
  with_reducible refine (HFx.out W0).mono ?_
  rintro e w1 ⟨rfl, hb⟩
  refine ⟨_, rfl, ?_⟩
  have X1 := X0.call hb
  have Y1 := Y0.call hb
  have BR1 := BR0.call hb
  have HB1 := bl_trans HB0 hb
  refine hK.out _ _ ⟨X1.cell 0, X1.cell 1, X1.cell 2, X1.cell 3, Y1.cell 0, Y1.cell 1, Y1.cell 2, Y1.cell 3⟩ (fun hHeld => ?_)
  clear hK K hb
  refine norm_ (a' := ?_) ?_ ?_
  rotate_left
  ·show Act.put _ (some 12) _ = _
   simp only [Act.put, pA, pB, pC]
   rfl
  refine on 3 14 (bq 6 15) (fun K hK => ?_)
  refine goes_ Tryz.func82 (by kernel_rfl) rfl #[.agg #[.i y0, .b y1, .u y2, .i y3]] (by first | rfl | go_simp) rfl rfl (by simp only [List.map_toArray, List.map_cons, List.map_nil] <;> rfl) ?_
  with_reducible refine (HFy.out w1).mono ?_
  rintro e w2 ⟨rfl, hb⟩
  refine ⟨_, rfl, ?_⟩
  have X2 := X1.call hb
  have Y2 := Y1.call hb
  have BR2 := BR1.call hb
  have HB2 := bl_trans HB1 hb
  refine hK.out _ _ ⟨X2.cell 0, X2.cell 1, X2.cell 2, X2.cell 3, Y2.cell 0, Y2.cell 1, Y2.cell 2, Y2.cell 3⟩ (fun hHeld => ?_)
  clear hK K hb
  refine norm_ (a' := ?_) ?_ ?_
  rotate_left
  ·show Act.put _ (some 14) _ = _
   simp only [Act.put, pA, pB, pC]
   rfl
  obtain ⟨⟨q0, q1, q2, q3⟩, ⟨k0, k1, k2, k3⟩⟩ := X2.c4
  obtain ⟨W3, hW3, X3, hK3, hBl3, hsz3⟩ := put4 X2 (.i f0) (.b f1) (.u f2) (.i f3)
  have Y3 := hK3 _ _ _ (by omega) Y2
  have BR3 := hK3 _ _ _ (by omega) BR2
  have HB3 := hBl3 w HB2 (Nat.le_refl _)
  refine last_ (i := 4) (N := none) (bq 6 31) rfl rfl (by kernel_rfl) (by decide) (fun K hK => ?_)
  refine skip_ (w1 := ?_) (by rfl) rfl ?_ ?_
  rotate_left
  ·go_simp
   rfl
  refine hK.out _ _ ?_
  clear hK K
  try rw [hW3]
  clear q0 q1 q2 q3 k0 k1 k2 k3 hW3 hK3 hBl3 hsz3
  obtain ⟨⟨q0, q1, q2, q3⟩, ⟨k0, k1, k2, k3⟩⟩ := Y3.c4
  obtain ⟨W4, hW4, Y4, hK4, hBl4, hsz4⟩ := put4 Y3 (.i 0) (.b g1) (.u g2) (.i g3)
  have X4 := hK4 _ _ _ (by omega) X3
  have BR4 := hK4 _ _ _ (by omega) BR3
  have HB4 := hBl4 w HB3 (Nat.le_succ _)
  refine last_ (i := 5) (N := none) (bq 6 63) rfl rfl (by kernel_rfl) (by decide) (fun K hK => ?_)
  refine skip_ (w1 := ?_) (by rfl) rfl ?_ ?_
  rotate_left
  ·go_simp
   rfl
  refine hK.out _ _ ?_
  clear hK K
  try rw [hW4]
  clear q0 q1 q2 q3 k0 k1 k2 k3 hW4 hK4 hBl4 hsz4 hHeld
  refine done_ (by kernel_rfl) ?_
  obtain ⟨⟨a0, a1, a2, a3⟩, ⟨m0, m1, m2, m3⟩⟩ := X4.c4
  obtain ⟨⟨b0, b1, b2, b3⟩, ⟨n0, n1, n2, n3⟩⟩ := Y4.c4
  clear X0 Y0 BR0 HB0 X1 Y1 BR1 HB1 X2 Y2 BR2 HB2 X3 Y3 BR3 HB3
  go_wp2_with (refine wpList_stG rfl 32 (.tmp 6) (.tmp 29) rfl (w.heap.size + 1 + 1) _ #[.i 0, .b false, .u 0, .i 0] BR4 rfl rfl (by kernel_rfl) rfl (by simp [Value.oneCell']) ?_; intro W8 B8 P8; have HB8 := P8.bel HB4 (by omega))
  exact bodyPost_ret (results_cell_row rfl _ _ (w.heap.size + 1 + 1) 32 _ (0, 0) _ rfl B8 Tryz.underlying32 rfl (by kernel_rfl)) rfl ⟨rfl, HB8⟩
set_option maxRecDepth 100000 in
set_option maxHeartbeats 4000000 in
theorem mul_inf_calls (x0 : Int) (x1 : Bool) (x2 x3 : Int) (y0 : Int) (y1 : Bool) (y2 y3 : Int) (up : Bool) (f0 : Int) (f1 : Bool) (f2 f3 g0 : Int) (g1 : Bool) (g2 g3 : Int) (hc : (f0 = 2 ∧ g0 ≠ 0) ∨ (f0 ≠ 2 ∧ f0 ≠ 0 ∧ g0 = 2))
  (hFx : fairN ⟨x0, x1, x2, x3⟩ = ⟨f0, f1, f2, f3⟩) (hFy : fairN ⟨y0, y1, y2, y3⟩ = ⟨g0, g1, g2, g3⟩) (w : World) :
  Calls Tryz.prog 103 #[.agg #[.i x0, .b x1, .u x2, .i x3], .agg #[.i y0, .b y1, .u y2, .i y3], .b up] w fun e w' => e = .returned (.agg #[.i 2, .b (f1 != g1), .u 0, .i 0]) ∧ Below w.heap.size w w' := by
 rcases hc with ⟨rfl, h1⟩ | ⟨h1, h3, rfl⟩
 ·have h2 : (g0 == 0) = false := beq_eq_false_iff_ne.2 h1
  have HFx := Lib.hid (fun W => afair_calls x0 x1 x2 x3 W)
  have HFy := Lib.hid (fun W => afair_calls y0 y1 y2 y3 W)
  rw [hFx] at HFx
  rw [hFy] at HFy
  dsimp only at HFx HFy
  clear hFx hFy
  have X0 := ((Blk.new w 32 #[.i x0, .b x1, .u x2, .i x3]).alloc (.cells #[.i y0, .b y1, .u y2, .i y3] 32)).alloc (.cells #[.i 0, .b false, .u 0, .i 0] 32)
  have Y0 := (Blk.new1 w (.cells #[.i x0, .b x1, .u x2, .i x3] 32) 32 #[.i y0, .b y1, .u y2, .i y3]).alloc (.cells #[.i 0, .b false, .u 0, .i 0] 32)
  have BR0 := Blk.new2 w (.cells #[.i x0, .b x1, .u x2, .i x3] 32) (.cells #[.i y0, .b y1, .u y2, .i y3] 32) 32 #[.i 0, .b false, .u 0, .i 0]
  have HB0 := bl_alloc (bl_alloc (bl_alloc (Below.refl w.heap.size w) (.cells #[.i x0, .b x1, .u x2, .i x3] 32)) (.cells #[.i y0, .b y1, .u y2, .i y3] 32)) (.cells #[.i 0, .b false, .u 0, .i 0] 32)
  go_enter Tryz.func103, Tryz.ntmps103
  go_wp2_with fail
  replace X0 := X0.drew
  replace Y0 := Y0.drew
  replace BR0 := BR0.drew
  replace HB0 := bl_drew HB0
  refine start_ (n := 6) (S := fun w' => w'.cell? ⟨w.heap.size, 0, none⟩ = some (.i x0) ∧ w'.cell? ⟨w.heap.size, 1, none⟩ = some (.b x1) ∧ w'.cell? ⟨w.heap.size, 2, none⟩ = some (.u x2) ∧ w'.cell? ⟨w.heap.size, 3, none⟩ = some (.i x3) ∧ w'.cell? ⟨w.heap.size + 1, 0, none⟩ = some (.i y0) ∧ w'.cell? ⟨w.heap.size + 1, 1, none⟩ = some (.b y1) ∧ w'.cell? ⟨w.heap.size + 1, 2, none⟩ = some (.u y2) ∧ w'.cell? ⟨w.heap.size + 1, 3, none⟩ = some (.i y3)) (ds := [4,5]) (bq 6 0) (by kernel_rfl) rfl rfl ⟨X0.cell 0, X0.cell 1, X0.cell 2, X0.cell 3, Y0.cell 0, Y0.cell 1, Y0.cell 2, Y0.cell 3⟩ (fun hHeld => ?_)
  generalize (((w.alloc (.cells #[.i x0, .b x1, .u x2, .i x3] 32)).alloc (.cells #[.i y0, .b y1, .u y2, .i y3] 32)).alloc (.cells #[.i 0, .b false, .u 0, .i 0] 32)).drew = W0 at X0 Y0 BR0 HB0 hHeld ⊢
  refine tk 0 11 (bq 6 1) ?_ ?_ ?_ ?_ hHeld ?_
  rotate_left 2
  ·rintro w' ⟨s0_, s1_, s2_, s3_, s4_, s5_, s6_, s7_⟩
   go_simp
   with_reducible rfl
  ·simp only [Act.put, pA, pB, pC]
   rfl
  refine tk 2 13 (bq 6 5) ?_ ?_ ?_ ?_ hHeld ?_
  rotate_left 2
  ·rintro w' ⟨s0_, s1_, s2_, s3_, s4_, s5_, s6_, s7_⟩
   go_simp
   with_reducible rfl
  ·simp only [Act.put, pA, pB, pC]
   rfl
  refine on 1 12 (bq 6 7) (fun K hK => ?_)
  refine goes_ Tryz.func82 (by kernel_rfl) rfl #[.agg #[.i x0, .b x1, .u x2, .i x3]] (by first | rfl | go_simp) rfl rfl (by simp only [List.map_toArray, List.map_cons, List.map_nil] <;> rfl) ?_
  with_reducible refine (HFx.out W0).mono ?_
  rintro e w1 ⟨rfl, hb⟩
  refine ⟨_, rfl, ?_⟩
  have X1 := X0.call hb
  have Y1 := Y0.call hb
  have BR1 := BR0.call hb
  have HB1 := bl_trans HB0 hb
  refine hK.out _ _ ⟨X1.cell 0, X1.cell 1, X1.cell 2, X1.cell 3, Y1.cell 0, Y1.cell 1, Y1.cell 2, Y1.cell 3⟩ (fun hHeld => ?_)
  clear hK K hb
  refine norm_ (a' := ?_) ?_ ?_
  rotate_left
  ·show Act.put _ (some 12) _ = _
   simp only [Act.put, pA, pB, pC]
   rfl
  refine on 3 14 (bq 6 15) (fun K hK => ?_)
  refine goes_ Tryz.func82 (by kernel_rfl) rfl #[.agg #[.i y0, .b y1, .u y2, .i y3]] (by first | rfl | go_simp) rfl rfl (by simp only [List.map_toArray, List.map_cons, List.map_nil] <;> rfl) ?_
  with_reducible refine (HFy.out w1).mono ?_
  rintro e w2 ⟨rfl, hb⟩
  refine ⟨_, rfl, ?_⟩
  have X2 := X1.call hb
  have Y2 := Y1.call hb
  have BR2 := BR1.call hb
  have HB2 := bl_trans HB1 hb
  refine hK.out _ _ ⟨X2.cell 0, X2.cell 1, X2.cell 2, X2.cell 3, Y2.cell 0, Y2.cell 1, Y2.cell 2, Y2.cell 3⟩ (fun hHeld => ?_)
  clear hK K hb
  refine norm_ (a' := ?_) ?_ ?_
  rotate_left
  ·show Act.put _ (some 14) _ = _
   simp only [Act.put, pA, pB, pC]
   rfl
  obtain ⟨⟨q0, q1, q2, q3⟩, ⟨k0, k1, k2, k3⟩⟩ := X2.c4
  obtain ⟨W3, hW3, X3, hK3, hBl3, hsz3⟩ := put4 X2 (.i 2) (.b f1) (.u f2) (.i f3)
  have Y3 := hK3 _ _ _ (by omega) Y2
  have BR3 := hK3 _ _ _ (by omega) BR2
  have HB3 := hBl3 w HB2 (Nat.le_refl _)
  refine last_ (i := 4) (N := none) (bq 6 31) rfl rfl (by kernel_rfl) (by decide) (fun K hK => ?_)
  refine skip_ (w1 := ?_) (by rfl) rfl ?_ ?_
  rotate_left
  ·go_simp
   rfl
  refine hK.out _ _ ?_
  clear hK K
  try rw [hW3]
  clear q0 q1 q2 q3 k0 k1 k2 k3 hW3 hK3 hBl3 hsz3
  obtain ⟨⟨q0, q1, q2, q3⟩, ⟨k0, k1, k2, k3⟩⟩ := Y3.c4
  obtain ⟨W4, hW4, Y4, hK4, hBl4, hsz4⟩ := put4 Y3 (.i g0) (.b g1) (.u g2) (.i g3)
  have X4 := hK4 _ _ _ (by omega) X3
  have BR4 := hK4 _ _ _ (by omega) BR3
  have HB4 := hBl4 w HB3 (Nat.le_succ _)
  refine last_ (i := 5) (N := none) (bq 6 63) rfl rfl (by kernel_rfl) (by decide) (fun K hK => ?_)
  refine skip_ (w1 := ?_) (by rfl) rfl ?_ ?_
  rotate_left
  ·go_simp
   rfl
  refine hK.out _ _ ?_
  clear hK K
  try rw [hW4]
  clear q0 q1 q2 q3 k0 k1 k2 k3 hW4 hK4 hBl4 hsz4 hHeld
  refine done_ (by kernel_rfl) ?_
  obtain ⟨⟨a0, a1, a2, a3⟩, ⟨m0, m1, m2, m3⟩⟩ := X4.c4
  obtain ⟨⟨b0, b1, b2, b3⟩, ⟨n0, n1, n2, n3⟩⟩ := Y4.c4
  clear X0 Y0 BR0 HB0 X1 Y1 BR1 HB1 X2 Y2 BR2 HB2 X3 Y3 BR3 HB3
  go_wp2_with (first
   | (go_at_call 54; (refine (infN_lit _ _).mono ?_); rintro e' w7 ⟨rfl, hb⟩; have HB7 := bl_trans HB4 hb; have BR7 := BR4.call hb; clear hb)
   | (refine wpList_stG rfl 32 (.tmp 6) (.tmp 40) rfl (w.heap.size + 1 + 1) _ #[.i 2, .b (f1 != g1), .u 0, .i 0] BR7 rfl rfl (by kernel_rfl) rfl (by simp [Value.oneCell']) ?_; intro W8 B8 P8; have HB8 := P8.bel HB7 (by omega)))
  exact bodyPost_ret (results_cell_row rfl _ _ (w.heap.size + 1 + 1) 32 _ (0, 0) _ rfl B8 Tryz.underlying32 rfl (by kernel_rfl)) rfl ⟨rfl, HB8⟩
 ·have h2 : (f0 == 2) = false := beq_eq_false_iff_ne.2 h1
  have h4 : (f0 == 0) = false := beq_eq_false_iff_ne.2 h3
  have HFx := Lib.hid (fun W => afair_calls x0 x1 x2 x3 W)
  have HFy := Lib.hid (fun W => afair_calls y0 y1 y2 y3 W)
  rw [hFx] at HFx
  rw [hFy] at HFy
  dsimp only at HFx HFy
  clear hFx hFy
  have X0 := ((Blk.new w 32 #[.i x0, .b x1, .u x2, .i x3]).alloc (.cells #[.i y0, .b y1, .u y2, .i y3] 32)).alloc (.cells #[.i 0, .b false, .u 0, .i 0] 32)
  have Y0 := (Blk.new1 w (.cells #[.i x0, .b x1, .u x2, .i x3] 32) 32 #[.i y0, .b y1, .u y2, .i y3]).alloc (.cells #[.i 0, .b false, .u 0, .i 0] 32)
  have BR0 := Blk.new2 w (.cells #[.i x0, .b x1, .u x2, .i x3] 32) (.cells #[.i y0, .b y1, .u y2, .i y3] 32) 32 #[.i 0, .b false, .u 0, .i 0]
  have HB0 := bl_alloc (bl_alloc (bl_alloc (Below.refl w.heap.size w) (.cells #[.i x0, .b x1, .u x2, .i x3] 32)) (.cells #[.i y0, .b y1, .u y2, .i y3] 32)) (.cells #[.i 0, .b false, .u 0, .i 0] 32)
  go_enter Tryz.func103, Tryz.ntmps103
  go_wp2_with fail
  replace X0 := X0.drew
  replace Y0 := Y0.drew
  replace BR0 := BR0.drew
  replace HB0 := bl_drew HB0
  refine start_ (n := 6) (S := fun w' => w'.cell? ⟨w.heap.size, 0, none⟩ = some (.i x0) ∧ w'.cell? ⟨w.heap.size, 1, none⟩ = some (.b x1) ∧ w'.cell? ⟨w.heap.size, 2, none⟩ = some (.u x2) ∧ w'.cell? ⟨w.heap.size, 3, none⟩ = some (.i x3) ∧ w'.cell? ⟨w.heap.size + 1, 0, none⟩ = some (.i y0) ∧ w'.cell? ⟨w.heap.size + 1, 1, none⟩ = some (.b y1) ∧ w'.cell? ⟨w.heap.size + 1, 2, none⟩ = some (.u y2) ∧ w'.cell? ⟨w.heap.size + 1, 3, none⟩ = some (.i y3)) (ds := [4,5]) (bq 6 0) (by kernel_rfl) rfl rfl ⟨X0.cell 0, X0.cell 1, X0.cell 2, X0.cell 3, Y0.cell 0, Y0.cell 1, Y0.cell 2, Y0.cell 3⟩ (fun hHeld => ?_)
  generalize (((w.alloc (.cells #[.i x0, .b x1, .u x2, .i x3] 32)).alloc (.cells #[.i y0, .b y1, .u y2, .i y3] 32)).alloc (.cells #[.i 0, .b false, .u 0, .i 0] 32)).drew = W0 at X0 Y0 BR0 HB0 hHeld ⊢
  refine tk 0 11 (bq 6 1) ?_ ?_ ?_ ?_ hHeld ?_
  rotate_left 2
  ·rintro w' ⟨s0_, s1_, s2_, s3_, s4_, s5_, s6_, s7_⟩
   go_simp
   with_reducible rfl
  ·simp only [Act.put, pA, pB, pC]
   rfl
  refine tk 2 13 (bq 6 5) ?_ ?_ ?_ ?_ hHeld ?_
  rotate_left 2
  ·rintro w' ⟨s0_, s1_, s2_, s3_, s4_, s5_, s6_, s7_⟩
   go_simp
   with_reducible rfl
  ·simp only [Act.put, pA, pB, pC]
   rfl
  refine on 1 12 (bq 6 7) (fun K hK => ?_)
  refine goes_ Tryz.func82 (by kernel_rfl) rfl #[.agg #[.i x0, .b x1, .u x2, .i x3]] (by first | rfl | go_simp) rfl rfl (by simp only [List.map_toArray, List.map_cons, List.map_nil] <;> rfl) ?_
  with_reducible refine (HFx.out W0).mono ?_
  rintro e w1 ⟨rfl, hb⟩
  refine ⟨_, rfl, ?_⟩
  have X1 := X0.call hb
  have Y1 := Y0.call hb
  have BR1 := BR0.call hb
  have HB1 := bl_trans HB0 hb
  refine hK.out _ _ ⟨X1.cell 0, X1.cell 1, X1.cell 2, X1.cell 3, Y1.cell 0, Y1.cell 1, Y1.cell 2, Y1.cell 3⟩ (fun hHeld => ?_)
  clear hK K hb
  refine norm_ (a' := ?_) ?_ ?_
  rotate_left
  ·show Act.put _ (some 12) _ = _
   simp only [Act.put, pA, pB, pC]
   rfl
  refine on 3 14 (bq 6 15) (fun K hK => ?_)
  refine goes_ Tryz.func82 (by kernel_rfl) rfl #[.agg #[.i y0, .b y1, .u y2, .i y3]] (by first | rfl | go_simp) rfl rfl (by simp only [List.map_toArray, List.map_cons, List.map_nil] <;> rfl) ?_
  with_reducible refine (HFy.out w1).mono ?_
  rintro e w2 ⟨rfl, hb⟩
  refine ⟨_, rfl, ?_⟩
  have X2 := X1.call hb
  have Y2 := Y1.call hb
  have BR2 := BR1.call hb
  have HB2 := bl_trans HB1 hb
  refine hK.out _ _ ⟨X2.cell 0, X2.cell 1, X2.cell 2, X2.cell 3, Y2.cell 0, Y2.cell 1, Y2.cell 2, Y2.cell 3⟩ (fun hHeld => ?_)
  clear hK K hb
  refine norm_ (a' := ?_) ?_ ?_
  rotate_left
  ·show Act.put _ (some 14) _ = _
   simp only [Act.put, pA, pB, pC]
   rfl
  obtain ⟨⟨q0, q1, q2, q3⟩, ⟨k0, k1, k2, k3⟩⟩ := X2.c4
  obtain ⟨W3, hW3, X3, hK3, hBl3, hsz3⟩ := put4 X2 (.i f0) (.b f1) (.u f2) (.i f3)
  have Y3 := hK3 _ _ _ (by omega) Y2
  have BR3 := hK3 _ _ _ (by omega) BR2
  have HB3 := hBl3 w HB2 (Nat.le_refl _)
  refine last_ (i := 4) (N := none) (bq 6 31) rfl rfl (by kernel_rfl) (by decide) (fun K hK => ?_)
  refine skip_ (w1 := ?_) (by rfl) rfl ?_ ?_
  rotate_left
  ·go_simp
   rfl
  refine hK.out _ _ ?_
  clear hK K
  try rw [hW3]
  clear q0 q1 q2 q3 k0 k1 k2 k3 hW3 hK3 hBl3 hsz3
  obtain ⟨⟨q0, q1, q2, q3⟩, ⟨k0, k1, k2, k3⟩⟩ := Y3.c4
  obtain ⟨W4, hW4, Y4, hK4, hBl4, hsz4⟩ := put4 Y3 (.i 2) (.b g1) (.u g2) (.i g3)
  have X4 := hK4 _ _ _ (by omega) X3
  have BR4 := hK4 _ _ _ (by omega) BR3
  have HB4 := hBl4 w HB3 (Nat.le_succ _)
  refine last_ (i := 5) (N := none) (bq 6 63) rfl rfl (by kernel_rfl) (by decide) (fun K hK => ?_)
  refine skip_ (w1 := ?_) (by rfl) rfl ?_ ?_
  rotate_left
  ·go_simp
   rfl
  refine hK.out _ _ ?_
  clear hK K
  try rw [hW4]
  clear q0 q1 q2 q3 k0 k1 k2 k3 hW4 hK4 hBl4 hsz4 hHeld
  refine done_ (by kernel_rfl) ?_
  obtain ⟨⟨a0, a1, a2, a3⟩, ⟨m0, m1, m2, m3⟩⟩ := X4.c4
  obtain ⟨⟨b0, b1, b2, b3⟩, ⟨n0, n1, n2, n3⟩⟩ := Y4.c4
  clear X0 Y0 BR0 HB0 X1 Y1 BR1 HB1 X2 Y2 BR2 HB2 X3 Y3 BR3 HB3
  go_wp2_with (first
   | (go_at_call 54; (refine (infN_lit _ _).mono ?_); rintro e' w7 ⟨rfl, hb⟩; have HB7 := bl_trans HB4 hb; have BR7 := BR4.call hb; clear hb)
   | (refine wpList_stG rfl 32 (.tmp 6) (.tmp 40) rfl (w.heap.size + 1 + 1) _ #[.i 2, .b (f1 != g1), .u 0, .i 0] BR7 rfl rfl (by kernel_rfl) rfl (by simp [Value.oneCell']) ?_; intro W8 B8 P8; have HB8 := P8.bel HB7 (by omega)))
  exact bodyPost_ret (results_cell_row rfl _ _ (w.heap.size + 1 + 1) 32 _ (0, 0) _ rfl B8 Tryz.underlying32 rfl (by kernel_rfl)) rfl ⟨rfl, HB8⟩
set_option maxRecDepth 100000 in
set_option maxHeartbeats 4000000 in
theorem mul_fin_calls (x0 : Int) (x1 : Bool) (x2 x3 : Int) (y0 : Int) (y1 : Bool) (y2 y3 : Int) (up : Bool) (f1 : Bool) (f3 : Int) (g1 : Bool) (g3 : Int) (M m : Nat) (hM0 : 9223372036854775808 ≤ M) (hM : M < 18446744073709551616) (hm0 : 9223372036854775808 ≤ m) (hm : m < 18446744073709551616) (h30 : -1048576 ≤ f3) (h31 : f3 ≤ 1048576) (g30 : -1048576 ≤ g3) (g31 : g3 ≤ 1048576)
  (hFx : fairN ⟨x0, x1, x2, x3⟩ = ⟨1, f1, M, f3⟩) (hFy : fairN ⟨y0, y1, y2, y3⟩ = ⟨1, g1, m, g3⟩) (w : World) :
  Calls Tryz.prog 103 #[.agg #[.i x0, .b x1, .u x2, .i x3], .agg #[.i y0, .b y1, .u y2, .i y3], .b up] w fun e w' => e = .returned (.agg #[.i (roundAt (f1 != g1) (M * m) (f3 + g3) up).k, .b (roundAt (f1 != g1) (M * m) (f3 + g3) up).n, .u (roundAt (f1 != g1) (M * m) (f3 + g3) up).m, .i (roundAt (f1 != g1) (M * m) (f3 + g3) up).e]) ∧ Below w.heap.size w w' := by
 have HM := Lib.hid (fun W => mul64_calls M m hM hm W)
 have htop := mul_top (f1 != g1) M m (f3 + g3) up hM0 hM hm0 hm
 have hlow := mul_low (f1 != g1) M m (f3 + g3) up hM0 hM hm0 hm
 have hlo : M * m % 18446744073709551616 < 18446744073709551616 := Nat.mod_lt _ (by decide)
 have hhi : M * m / 18446744073709551616 < 18446744073709551616 := (Nat.div_lt_iff_lt_mul (by decide)).2 (Nat.mul_lt_mul'' hM hm)
 generalize roundAt (f1 != g1) (M * m) (f3 + g3) up = r at htop hlow ⊢
 generalize M * m / 18446744073709551616 = hi at HM htop hlow hhi
 generalize M * m % 18446744073709551616 = lo at HM htop hlow hlo
 by_cases hc : 9223372036854775808 ≤ hi
 ·rw [htop hc]
  have hc' : ¬ (hi : Int) < 9223372036854775808 := by omega
  have HG := Lib.hid (fun W => grow_calls (f1 != g1) hi (f3 + g3 + 64) (decide (lo ≠ 0)) (up != (f1 != g1)) (by omega) (by omega) (by omega) (by omega) W)
  have e3 : decide (lo ≠ 0) = ((lo : Int) != 0) := by rw [Bool.eq_iff_iff, decide_eq_true_iff]; simp
  rw [e3] at HG ⊢
  generalize growN (f1 != g1) _ _ _ _ = c at HG ⊢
  clear htop hlow e3 hc hhi
  generalize (hi : Int) = H at HM HG hc'
  have HFx := Lib.hid (fun W => afair_calls x0 x1 x2 x3 W)
  have HFy := Lib.hid (fun W => afair_calls y0 y1 y2 y3 W)
  rw [hFx] at HFx
  rw [hFy] at HFy
  dsimp only at HFx HFy
  clear hFx hFy
  have X0 := ((Blk.new w 32 #[.i x0, .b x1, .u x2, .i x3]).alloc (.cells #[.i y0, .b y1, .u y2, .i y3] 32)).alloc (.cells #[.i 0, .b false, .u 0, .i 0] 32)
  have Y0 := (Blk.new1 w (.cells #[.i x0, .b x1, .u x2, .i x3] 32) 32 #[.i y0, .b y1, .u y2, .i y3]).alloc (.cells #[.i 0, .b false, .u 0, .i 0] 32)
  have BR0 := Blk.new2 w (.cells #[.i x0, .b x1, .u x2, .i x3] 32) (.cells #[.i y0, .b y1, .u y2, .i y3] 32) 32 #[.i 0, .b false, .u 0, .i 0]
  have HB0 := bl_alloc (bl_alloc (bl_alloc (Below.refl w.heap.size w) (.cells #[.i x0, .b x1, .u x2, .i x3] 32)) (.cells #[.i y0, .b y1, .u y2, .i y3] 32)) (.cells #[.i 0, .b false, .u 0, .i 0] 32)
  go_enter Tryz.func103, Tryz.ntmps103
  go_wp2_with fail
  replace X0 := X0.drew
  replace Y0 := Y0.drew
  replace BR0 := BR0.drew
  replace HB0 := bl_drew HB0
  refine start_ (n := 6) (S := fun w' => w'.cell? ⟨w.heap.size, 0, none⟩ = some (.i x0) ∧ w'.cell? ⟨w.heap.size, 1, none⟩ = some (.b x1) ∧ w'.cell? ⟨w.heap.size, 2, none⟩ = some (.u x2) ∧ w'.cell? ⟨w.heap.size, 3, none⟩ = some (.i x3) ∧ w'.cell? ⟨w.heap.size + 1, 0, none⟩ = some (.i y0) ∧ w'.cell? ⟨w.heap.size + 1, 1, none⟩ = some (.b y1) ∧ w'.cell? ⟨w.heap.size + 1, 2, none⟩ = some (.u y2) ∧ w'.cell? ⟨w.heap.size + 1, 3, none⟩ = some (.i y3)) (ds := [4,5]) (bq 6 0) (by kernel_rfl) rfl rfl ⟨X0.cell 0, X0.cell 1, X0.cell 2, X0.cell 3, Y0.cell 0, Y0.cell 1, Y0.cell 2, Y0.cell 3⟩ (fun hHeld => ?_)
  generalize (((w.alloc (.cells #[.i x0, .b x1, .u x2, .i x3] 32)).alloc (.cells #[.i y0, .b y1, .u y2, .i y3] 32)).alloc (.cells #[.i 0, .b false, .u 0, .i 0] 32)).drew = W0 at X0 Y0 BR0 HB0 hHeld ⊢
  refine tk 0 11 (bq 6 1) ?_ ?_ ?_ ?_ hHeld ?_
  rotate_left 2
  ·rintro w' ⟨s0_, s1_, s2_, s3_, s4_, s5_, s6_, s7_⟩
   go_simp
   with_reducible rfl
  ·simp only [Act.put, pA, pB, pC]
   rfl
  refine tk 2 13 (bq 6 5) ?_ ?_ ?_ ?_ hHeld ?_
  rotate_left 2
  ·rintro w' ⟨s0_, s1_, s2_, s3_, s4_, s5_, s6_, s7_⟩
   go_simp
   with_reducible rfl
  ·simp only [Act.put, pA, pB, pC]
   rfl
  refine on 1 12 (bq 6 7) (fun K hK => ?_)
  refine goes_ Tryz.func82 (by kernel_rfl) rfl #[.agg #[.i x0, .b x1, .u x2, .i x3]] (by first | rfl | go_simp) rfl rfl (by simp only [List.map_toArray, List.map_cons, List.map_nil] <;> rfl) ?_
  with_reducible refine (HFx.out W0).mono ?_
  rintro e w1 ⟨rfl, hb⟩
  refine ⟨_, rfl, ?_⟩
  have X1 := X0.call hb
  have Y1 := Y0.call hb
  have BR1 := BR0.call hb
  have HB1 := bl_trans HB0 hb
  refine hK.out _ _ ⟨X1.cell 0, X1.cell 1, X1.cell 2, X1.cell 3, Y1.cell 0, Y1.cell 1, Y1.cell 2, Y1.cell 3⟩ (fun hHeld => ?_)
  clear hK K hb
  refine norm_ (a' := ?_) ?_ ?_
  rotate_left
  ·show Act.put _ (some 12) _ = _
   simp only [Act.put, pA, pB, pC]
   rfl
  refine on 3 14 (bq 6 15) (fun K hK => ?_)
  refine goes_ Tryz.func82 (by kernel_rfl) rfl #[.agg #[.i y0, .b y1, .u y2, .i y3]] (by first | rfl | go_simp) rfl rfl (by simp only [List.map_toArray, List.map_cons, List.map_nil] <;> rfl) ?_
  with_reducible refine (HFy.out w1).mono ?_
  rintro e w2 ⟨rfl, hb⟩
  refine ⟨_, rfl, ?_⟩
  have X2 := X1.call hb
  have Y2 := Y1.call hb
  have BR2 := BR1.call hb
  have HB2 := bl_trans HB1 hb
  refine hK.out _ _ ⟨X2.cell 0, X2.cell 1, X2.cell 2, X2.cell 3, Y2.cell 0, Y2.cell 1, Y2.cell 2, Y2.cell 3⟩ (fun hHeld => ?_)
  clear hK K hb
  refine norm_ (a' := ?_) ?_ ?_
  rotate_left
  ·show Act.put _ (some 14) _ = _
   simp only [Act.put, pA, pB, pC]
   rfl
  obtain ⟨⟨q0, q1, q2, q3⟩, ⟨k0, k1, k2, k3⟩⟩ := X2.c4
  obtain ⟨W3, hW3, X3, hK3, hBl3, hsz3⟩ := put4 X2 (.i 1) (.b f1) (.u M) (.i f3)
  have Y3 := hK3 _ _ _ (by omega) Y2
  have BR3 := hK3 _ _ _ (by omega) BR2
  have HB3 := hBl3 w HB2 (Nat.le_refl _)
  refine last_ (i := 4) (N := none) (bq 6 31) rfl rfl (by kernel_rfl) (by decide) (fun K hK => ?_)
  refine skip_ (w1 := ?_) (by rfl) rfl ?_ ?_
  rotate_left
  ·go_simp
   rfl
  refine hK.out _ _ ?_
  clear hK K
  try rw [hW3]
  clear q0 q1 q2 q3 k0 k1 k2 k3 hW3 hK3 hBl3 hsz3
  obtain ⟨⟨q0, q1, q2, q3⟩, ⟨k0, k1, k2, k3⟩⟩ := Y3.c4
  obtain ⟨W4, hW4, Y4, hK4, hBl4, hsz4⟩ := put4 Y3 (.i 1) (.b g1) (.u m) (.i g3)
  have X4 := hK4 _ _ _ (by omega) X3
  have BR4 := hK4 _ _ _ (by omega) BR3
  have HB4 := hBl4 w HB3 (Nat.le_succ _)
  refine last_ (i := 5) (N := none) (bq 6 63) rfl rfl (by kernel_rfl) (by decide) (fun K hK => ?_)
  refine skip_ (w1 := ?_) (by rfl) rfl ?_ ?_
  rotate_left
  ·go_simp
   rfl
  refine hK.out _ _ ?_
  clear hK K
  try rw [hW4]
  clear q0 q1 q2 q3 k0 k1 k2 k3 hW4 hK4 hBl4 hsz4 hHeld
  refine done_ (by kernel_rfl) ?_
  obtain ⟨⟨a0, a1, a2, a3⟩, ⟨m0, m1, m2, m3⟩⟩ := X4.c4
  obtain ⟨⟨b0, b1, b2, b3⟩, ⟨n0, n1, n2, n3⟩⟩ := Y4.c4
  clear X0 Y0 BR0 HB0 X1 Y1 BR1 HB1 X2 Y2 BR2 HB2 X3 Y3 BR3 HB3
  go_wp2_with (go_at_call 105; (refine (HM.out _).mono ?_); rintro e' w5 ⟨rfl, hb⟩; have HB5 := bl_trans HB4 hb; have BR5 := BR4.call hb; have X5 := X4.call hb; have Y5 := Y4.call hb; clear hb a0 a1 a2 a3 m0 m1 m2 m3 b0 b1 b2 b3 n0 n1 n2 n3; obtain ⟨⟨a0, a1, a2, a3⟩, _⟩ := X5.c4; obtain ⟨⟨b0, b1, b2, b3⟩, _⟩ := Y5.c4)
  go_wp2_with (first
   | (go_at_call 97; (refine (HG.out _).mono ?_); rintro e' w7 ⟨rfl, hb⟩; have HB7 := bl_trans HB5 hb; have BR7 := BR5.call hb; clear hb)
   | (refine wpList_stG rfl 32 (.tmp 6) (.tmp 74) rfl (w.heap.size + 1 + 1) _ #[.i c.k, .b c.n, .u c.m, .i c.e] BR7 rfl rfl (by kernel_rfl) rfl (by simp [Value.oneCell']) ?_; intro W8 B8 P8; have HB8 := P8.bel HB7 (by omega)))
  exact bodyPost_ret (results_cell_row rfl _ _ (w.heap.size + 1 + 1) 32 _ (0, 0) _ rfl B8 Tryz.underlying32 rfl (by kernel_rfl)) rfl ⟨rfl, HB8⟩
 ·rw [hlow (by omega)]
  have hc' : (hi : Int) < 9223372036854775808 := by omega
  obtain ⟨o1, o2⟩ := or_words hi lo 1 (by omega) (by omega) (by omega) hlo
  have o3 : lo / 2 ^ (64 - 1) = lo / 9223372036854775808 := rfl
  have HG := Lib.hid (fun W => grow_calls (f1 != g1) ((hi * 2 + lo / 9223372036854775808 : Nat) : Int) (f3 + g3 + 63) (decide (lo * 2 % 18446744073709551616 ≠ 0)) (up != (f1 != g1)) (by omega) (by omega) (by omega) (by omega) W)
  have e1 : ((hi * 2 + lo / 9223372036854775808 : Nat) : Int) = bits .or .u64 ((hi : Int) * 2) ((lo : Int) / 9223372036854775808) := by
   rw [← o1, o3] at o2
   have p1 : ((hi * 2 ^ 1 : Nat) : Int) = (hi : Int) * 2 := by omega
   have p2 : ((lo / 9223372036854775808 : Nat) : Int) = (lo : Int) / 9223372036854775808 := by omega
   rw [p1, p2] at o2
   exact o2.symm
  have e3 : decide (lo * 2 % 18446744073709551616 ≠ 0) = (IntKind.u64.wrap ((lo : Int) * 2) != 0) := by rw [wrap_u, Bool.eq_iff_iff, decide_eq_true_iff]; simp; omega
  have e2 : f3 + g3 + 63 = f3 + g3 + 64 - 1 := by omega
  rw [e1, e2, e3] at HG ⊢
  generalize growN (f1 != g1) _ _ _ _ = c at HG ⊢
  clear htop hlow e1 e2 e3 o1 o2 o3
  have HFx := Lib.hid (fun W => afair_calls x0 x1 x2 x3 W)
  have HFy := Lib.hid (fun W => afair_calls y0 y1 y2 y3 W)
  rw [hFx] at HFx
  rw [hFy] at HFy
  dsimp only at HFx HFy
  clear hFx hFy
  have X0 := ((Blk.new w 32 #[.i x0, .b x1, .u x2, .i x3]).alloc (.cells #[.i y0, .b y1, .u y2, .i y3] 32)).alloc (.cells #[.i 0, .b false, .u 0, .i 0] 32)
  have Y0 := (Blk.new1 w (.cells #[.i x0, .b x1, .u x2, .i x3] 32) 32 #[.i y0, .b y1, .u y2, .i y3]).alloc (.cells #[.i 0, .b false, .u 0, .i 0] 32)
  have BR0 := Blk.new2 w (.cells #[.i x0, .b x1, .u x2, .i x3] 32) (.cells #[.i y0, .b y1, .u y2, .i y3] 32) 32 #[.i 0, .b false, .u 0, .i 0]
  have HB0 := bl_alloc (bl_alloc (bl_alloc (Below.refl w.heap.size w) (.cells #[.i x0, .b x1, .u x2, .i x3] 32)) (.cells #[.i y0, .b y1, .u y2, .i y3] 32)) (.cells #[.i 0, .b false, .u 0, .i 0] 32)
  go_enter Tryz.func103, Tryz.ntmps103
  go_wp2_with fail
  replace X0 := X0.drew
  replace Y0 := Y0.drew
  replace BR0 := BR0.drew
  replace HB0 := bl_drew HB0
  refine start_ (n := 6) (S := fun w' => w'.cell? ⟨w.heap.size, 0, none⟩ = some (.i x0) ∧ w'.cell? ⟨w.heap.size, 1, none⟩ = some (.b x1) ∧ w'.cell? ⟨w.heap.size, 2, none⟩ = some (.u x2) ∧ w'.cell? ⟨w.heap.size, 3, none⟩ = some (.i x3) ∧ w'.cell? ⟨w.heap.size + 1, 0, none⟩ = some (.i y0) ∧ w'.cell? ⟨w.heap.size + 1, 1, none⟩ = some (.b y1) ∧ w'.cell? ⟨w.heap.size + 1, 2, none⟩ = some (.u y2) ∧ w'.cell? ⟨w.heap.size + 1, 3, none⟩ = some (.i y3)) (ds := [4,5]) (bq 6 0) (by kernel_rfl) rfl rfl ⟨X0.cell 0, X0.cell 1, X0.cell 2, X0.cell 3, Y0.cell 0, Y0.cell 1, Y0.cell 2, Y0.cell 3⟩ (fun hHeld => ?_)
  generalize (((w.alloc (.cells #[.i x0, .b x1, .u x2, .i x3] 32)).alloc (.cells #[.i y0, .b y1, .u y2, .i y3] 32)).alloc (.cells #[.i 0, .b false, .u 0, .i 0] 32)).drew = W0 at X0 Y0 BR0 HB0 hHeld ⊢
  refine tk 0 11 (bq 6 1) ?_ ?_ ?_ ?_ hHeld ?_
  rotate_left 2
  ·rintro w' ⟨s0_, s1_, s2_, s3_, s4_, s5_, s6_, s7_⟩
   go_simp
   with_reducible rfl
  ·simp only [Act.put, pA, pB, pC]
   rfl
  refine tk 2 13 (bq 6 5) ?_ ?_ ?_ ?_ hHeld ?_
  rotate_left 2
  ·rintro w' ⟨s0_, s1_, s2_, s3_, s4_, s5_, s6_, s7_⟩
   go_simp
   with_reducible rfl
  ·simp only [Act.put, pA, pB, pC]
   rfl
  refine on 1 12 (bq 6 7) (fun K hK => ?_)
  refine goes_ Tryz.func82 (by kernel_rfl) rfl #[.agg #[.i x0, .b x1, .u x2, .i x3]] (by first | rfl | go_simp) rfl rfl (by simp only [List.map_toArray, List.map_cons, List.map_nil] <;> rfl) ?_
  with_reducible refine (HFx.out W0).mono ?_
  rintro e w1 ⟨rfl, hb⟩
  refine ⟨_, rfl, ?_⟩
  have X1 := X0.call hb
  have Y1 := Y0.call hb
  have BR1 := BR0.call hb
  have HB1 := bl_trans HB0 hb
  refine hK.out _ _ ⟨X1.cell 0, X1.cell 1, X1.cell 2, X1.cell 3, Y1.cell 0, Y1.cell 1, Y1.cell 2, Y1.cell 3⟩ (fun hHeld => ?_)
  clear hK K hb
  refine norm_ (a' := ?_) ?_ ?_
  rotate_left
  ·show Act.put _ (some 12) _ = _
   simp only [Act.put, pA, pB, pC]
   rfl
  refine on 3 14 (bq 6 15) (fun K hK => ?_)
  refine goes_ Tryz.func82 (by kernel_rfl) rfl #[.agg #[.i y0, .b y1, .u y2, .i y3]] (by first | rfl | go_simp) rfl rfl (by simp only [List.map_toArray, List.map_cons, List.map_nil] <;> rfl) ?_
  with_reducible refine (HFy.out w1).mono ?_
  rintro e w2 ⟨rfl, hb⟩
  refine ⟨_, rfl, ?_⟩
  have X2 := X1.call hb
  have Y2 := Y1.call hb
  have BR2 := BR1.call hb
  have HB2 := bl_trans HB1 hb
  refine hK.out _ _ ⟨X2.cell 0, X2.cell 1, X2.cell 2, X2.cell 3, Y2.cell 0, Y2.cell 1, Y2.cell 2, Y2.cell 3⟩ (fun hHeld => ?_)
  clear hK K hb
  refine norm_ (a' := ?_) ?_ ?_
  rotate_left
  ·show Act.put _ (some 14) _ = _
   simp only [Act.put, pA, pB, pC]
   rfl
  obtain ⟨⟨q0, q1, q2, q3⟩, ⟨k0, k1, k2, k3⟩⟩ := X2.c4
  obtain ⟨W3, hW3, X3, hK3, hBl3, hsz3⟩ := put4 X2 (.i 1) (.b f1) (.u M) (.i f3)
  have Y3 := hK3 _ _ _ (by omega) Y2
  have BR3 := hK3 _ _ _ (by omega) BR2
  have HB3 := hBl3 w HB2 (Nat.le_refl _)
  refine last_ (i := 4) (N := none) (bq 6 31) rfl rfl (by kernel_rfl) (by decide) (fun K hK => ?_)
  refine skip_ (w1 := ?_) (by rfl) rfl ?_ ?_
  rotate_left
  ·go_simp
   rfl
  refine hK.out _ _ ?_
  clear hK K
  try rw [hW3]
  clear q0 q1 q2 q3 k0 k1 k2 k3 hW3 hK3 hBl3 hsz3
  obtain ⟨⟨q0, q1, q2, q3⟩, ⟨k0, k1, k2, k3⟩⟩ := Y3.c4
  obtain ⟨W4, hW4, Y4, hK4, hBl4, hsz4⟩ := put4 Y3 (.i 1) (.b g1) (.u m) (.i g3)
  have X4 := hK4 _ _ _ (by omega) X3
  have BR4 := hK4 _ _ _ (by omega) BR3
  have HB4 := hBl4 w HB3 (Nat.le_succ _)
  refine last_ (i := 5) (N := none) (bq 6 63) rfl rfl (by kernel_rfl) (by decide) (fun K hK => ?_)
  refine skip_ (w1 := ?_) (by rfl) rfl ?_ ?_
  rotate_left
  ·go_simp
   rfl
  refine hK.out _ _ ?_
  clear hK K
  try rw [hW4]
  clear q0 q1 q2 q3 k0 k1 k2 k3 hW4 hK4 hBl4 hsz4 hHeld
  refine done_ (by kernel_rfl) ?_
  obtain ⟨⟨a0, a1, a2, a3⟩, ⟨m0, m1, m2, m3⟩⟩ := X4.c4
  obtain ⟨⟨b0, b1, b2, b3⟩, ⟨n0, n1, n2, n3⟩⟩ := Y4.c4
  clear X0 Y0 BR0 HB0 X1 Y1 BR1 HB1 X2 Y2 BR2 HB2 X3 Y3 BR3 HB3
  go_wp2_with (go_at_call 105; (refine (HM.out _).mono ?_); rintro e' w5 ⟨rfl, hb⟩; have HB5 := bl_trans HB4 hb; have BR5 := BR4.call hb; have X5 := X4.call hb; have Y5 := Y4.call hb; clear hb a0 a1 a2 a3 m0 m1 m2 m3 b0 b1 b2 b3 n0 n1 n2 n3; obtain ⟨⟨a0, a1, a2, a3⟩, _⟩ := X5.c4; obtain ⟨⟨b0, b1, b2, b3⟩, _⟩ := Y5.c4)
  generalize bits .or .u64 ((hi : Int) * 2) ((lo : Int) / 9223372036854775808) = q at HG ⊢
  generalize IntKind.u64.wrap ((lo : Int) * 2) = l2 at HG ⊢
  go_wp2_with (first
   | (go_at_call 97; (refine (HG.out _).mono ?_); rintro e' w7 ⟨rfl, hb⟩; have HB7 := bl_trans HB5 hb; have BR7 := BR5.call hb; clear hb)
   | (refine wpList_stG rfl 32 (.tmp 6) (.tmp 74) rfl (w.heap.size + 1 + 1) _ #[.i c.k, .b c.n, .u c.m, .i c.e] BR7 rfl rfl (by kernel_rfl) rfl (by simp [Value.oneCell']) ?_; intro W8 B8 P8; have HB8 := P8.bel HB7 (by omega)))
  exact bodyPost_ret (results_cell_row rfl _ _ (w.heap.size + 1 + 1) 32 _ (0, 0) _ rfl B8 Tryz.underlying32 rfl (by kernel_rfl)) rfl ⟨rfl, HB8⟩
theorem mulN_calls (x y : Num) (wx : Wf x) (wy : Wf y) (up : Bool) (w : World) : Calls Tryz.prog 103 #[.agg #[.i (x).k, .b (x).n, .u (x).m, .i (x).e], .agg #[.i (y).k, .b (y).n, .u (y).m, .i (y).e], .b up] w fun e w' => e = .returned (.agg #[.i (mulN x y up).k, .b (mulN x y up).n, .u (mulN x y up).m, .i (mulN x y up).e]) ∧ Below w.heap.size w w' := by
 have mF := mayN_fair x
 have mG := mayN_fair y
 have wF := fairN_wf wx
 have wG := fairN_wf wy
 unfold mulN
 obtain ⟨x0, x1, x2, x3⟩ := x
 obtain ⟨y0, y1, y2, y3⟩ := y
 obtain ⟨F, hF⟩ : ∃ F, fairN ⟨x0, x1, x2, x3⟩ = F := ⟨_, rfl⟩
 obtain ⟨G, hG⟩ : ∃ G, fairN ⟨y0, y1, y2, y3⟩ = G := ⟨_, rfl⟩
 rw [hF] at mF wF ⊢
 rw [hG] at mG wG ⊢
 obtain ⟨f0, f1, f2, f3⟩ := F
 obtain ⟨g0, g1, g2, g3⟩ := G
 unfold mulF
 dsimp only
 by_cases i1 : f0 = 0 ∨ g0 = 0
 ·rw [if_pos i1]
  exact mul_zero_calls x0 x1 x2 x3 y0 y1 y2 y3 up f0 f1 f2 f3 g0 g1 g2 g3 (by omega) hF hG w
 ·rw [if_neg i1]
  by_cases i2 : f0 = 2 ∨ g0 = 2
  ·rw [if_pos i2]
   exact mul_inf_calls x0 x1 x2 x3 y0 y1 y2 y3 up f0 f1 f2 f3 g0 g1 g2 g3 (by omega) hF hG w
  ·rw [if_neg i2]
   unfold Wf at wF wG
   dsimp only at wF wG
   rcases may_cases mF with ⟨h, _⟩ | ⟨hf, hf1, hf2, hf3⟩ | ⟨h, _⟩ <;> rcases may_cases mG with ⟨h', _⟩ | ⟨hg, hg1, hg2, hg3⟩ | ⟨h', _⟩
   all_goals try dsimp only at *
   all_goals try (exfalso; omega)
   obtain ⟨M, rfl⟩ := Int.eq_ofNat_of_zero_le wF.1
   obtain ⟨m, rfl⟩ := Int.eq_ofNat_of_zero_le wG.1
   subst hf hg
   exact mul_fin_calls x0 x1 x2 x3 y0 y1 y2 y3 up f1 f3 g1 g3 M m (by omega) (by omega) (by omega) (by omega) hf2 hf3 hg2 hg3 hF hG w
end Go.Proofs.YteabdeohhmbclaaGreat.Wk
